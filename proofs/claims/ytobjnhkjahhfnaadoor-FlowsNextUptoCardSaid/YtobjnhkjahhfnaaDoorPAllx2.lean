/- Printed walks of the functions that the laws reach: each function, what it computes, and that it does. No conditions. -/
import Derived.Test.YtobjnhkjahhfnaaDoorPAllx0
namespace Go.Proofs.YtobjnhkjahhfnaaDoor.PAll
open Go.RowKit Go.Proofs.YtobjnhkjahhfnaaDoor.XW Go.Proofs.YtobjnhkjahhfnaaDoor.XLib Go.Proofs.YtobjnhkjahhfnaaDoorW.PrintWords Go.Proofs.YtobjnhkjahhfnaaDoorW.PrintLast Go.Proofs.YtobjnhkjahhfnaaDoorW.PrintMore
attribute [local go_sem] max2_int min2_int max_two min_two max_three min_three max_four min_four   -- for this text's walks alone
set_option linter.unusedVariables false
set_option linter.unusedSimpArgs false

/-! ### factotumlaw21_num: function 27 -/
def factotumlaw21_num.f (a0:Int):Option (Int × Int × ByteArray):=some (1,a0,(⟨#[]⟩:ByteArray))
set_option maxHeartbeats 8000000 in
set_option maxRecDepth 100000 in
theorem factotumlaw21_num.calls (a0:Int) (r1:Int) (r2:Int) (r3:ByteArray) (w:World) (h:factotumlaw21_num.f a0=some (r1,r2,r3)) :
  Calls Tryd.prog 27 #[.int .i64 a0] w fun e w'=>e=.returned (.agg #[.int .i64 r1,.int .i64 r2,.string r3])∧Below w.heap.size w w':=by
 have hu24:=Tryd.underlying24
 have HB:=Aside0.mk (Below.refl w.heap.size w)
 have H:(some (1,a0,(⟨#[]⟩:ByteArray)))=some (r1,r2,r3):=h
 clear h
 simp only [Option.some.injEq,Prod.mk.injEq] at H
 obtain ⟨rfl,rfl,rfl⟩:=H
 go_enter Tryd.func27,Tryd.ntmps27
 go_wp2_with (first|((with_reducible refine gate_dst (N:=2) rfl ?_);refine box_event ?hg (N:=2) ?hd (cs:=#[.int .i64 0,.int .i64 0,.string (⟨#[]⟩:ByteArray)]) (t:=24) ?hr ?_;(case hd=>rfl);(case hg=>rfl);(case hr=>first|(go_simp;done)|(go_simp;rfl));intro gb101 hg w2 hbox hb;have BK101:=Aside0.mk (hbox);have GW101:=Aside0.mk ((by rw [hg];exact (below_size (by repeat (first|(with_reducible first|exact HB.out|apply zl1|apply zl2|apply zl3)|exact HB.out))):w.heap.size≤gb101));have GE101:=Aside0.mk ((by rw [hg];exact (below_size (by repeat (first|(with_reducible first|exact HB.out|apply zl1|apply zl2|apply zl3)|exact HB.out))):w.heap.size≤gb101));replace HB:=Aside0.mk (below_step (by repeat (first|(with_reducible first|exact HB.out|apply zl1|apply zl2|apply zl3)|exact HB.out)) hb);clear hb hbox hg;obtain ⟨hcz3_0,hcz3_1,hcz3_2⟩:=zc3 BK101.out;obtain ⟨hfz3_0,hfz3_1,hfz3_2⟩:=zf3 BK101.out))
 refine bodyPost_ret (results_cell_row rfl _ _ gb101 24 #[.int .i64 1,.int .i64 a0,.string (⟨#[]⟩:ByteArray)] (0,0) _ rfl (by apply zpe;(repeat (first|(with_reducible first|apply zb1|apply zb2|apply zb3|apply zpi|exact BK101.out)));rfl) Tryd.underlying24 rfl (by kernel_rfl)) rfl ?_
 exact ⟨by first|(with_reducible rfl)|(simp only [isEmpty_bne,Bool.not_not] <;> rfl)|rfl|(simp [*,errW_none,errW_some] <;> rfl),by repeat (first|(with_reducible first|exact HB.out|apply zl1|apply zl2|apply zl3|refine below_set ?_ GE101.out)|exact HB.out)⟩

/-! ### machine_number: function 52 -/
def machine_number.f (a0:Int):Option (Int × Int × ByteArray):=some (1,a0,(⟨#[]⟩:ByteArray))
set_option maxHeartbeats 8000000 in
set_option maxRecDepth 100000 in
theorem machine_number.calls (a0:Int) (r1:Int) (r2:Int) (r3:ByteArray) (w:World) (h:machine_number.f a0=some (r1,r2,r3)) :
  Calls Tryd.prog 52 #[.int .i64 a0] w fun e w'=>e=.returned (.agg #[.int .i64 r1,.int .i64 r2,.string r3])∧Below w.heap.size w w':=by
 have hu24:=Tryd.underlying24
 have HB:=Aside0.mk (Below.refl w.heap.size w)
 have H:(some (1,a0,(⟨#[]⟩:ByteArray)))=some (r1,r2,r3):=h
 clear h
 simp only [Option.some.injEq,Prod.mk.injEq] at H
 obtain ⟨rfl,rfl,rfl⟩:=H
 go_enter Tryd.func52,Tryd.ntmps52
 go_wp2_with (first|((with_reducible refine gate_dst (N:=2) rfl ?_);refine box_event ?hg (N:=2) ?hd (cs:=#[.int .i64 0,.int .i64 0,.string (⟨#[]⟩:ByteArray)]) (t:=24) ?hr ?_;(case hd=>rfl);(case hg=>rfl);(case hr=>first|(go_simp;done)|(go_simp;rfl));intro gb102 hg w2 hbox hb;have BK102:=Aside0.mk (hbox);have GW102:=Aside0.mk ((by rw [hg];exact (below_size (by repeat (first|(with_reducible first|exact HB.out|apply zl1|apply zl2|apply zl3)|exact HB.out))):w.heap.size≤gb102));have GE102:=Aside0.mk ((by rw [hg];exact (below_size (by repeat (first|(with_reducible first|exact HB.out|apply zl1|apply zl2|apply zl3)|exact HB.out))):w.heap.size≤gb102));replace HB:=Aside0.mk (below_step (by repeat (first|(with_reducible first|exact HB.out|apply zl1|apply zl2|apply zl3)|exact HB.out)) hb);clear hb hbox hg;obtain ⟨hcz3_0,hcz3_1,hcz3_2⟩:=zc3 BK102.out;obtain ⟨hfz3_0,hfz3_1,hfz3_2⟩:=zf3 BK102.out))
 refine bodyPost_ret (results_cell_row rfl _ _ gb102 24 #[.int .i64 1,.int .i64 a0,.string (⟨#[]⟩:ByteArray)] (0,0) _ rfl (by apply zpe;(repeat (first|(with_reducible first|apply zb1|apply zb2|apply zb3|apply zpi|exact BK102.out)));rfl) Tryd.underlying24 rfl (by kernel_rfl)) rfl ?_
 exact ⟨by first|(with_reducible rfl)|(simp only [isEmpty_bne,Bool.not_not] <;> rfl)|rfl|(simp [*,errW_none,errW_some] <;> rfl),by repeat (first|(with_reducible first|exact HB.out|apply zl1|apply zl2|apply zl3|refine below_set ?_ GE102.out)|exact HB.out)⟩

/-! ### bits_Mul32: function 74 -/
def bits_Mul32.f (a0:Int) (a1:Int):Option (Int × Int):=some (((IntKind.u64.wrap ((IntKind.u64.wrap (a0)) * (IntKind.u64.wrap (a1)))) / 4294967296) % 4294967296,(IntKind.u64.wrap ((IntKind.u64.wrap (a0)) * (IntKind.u64.wrap (a1)))) % 4294967296)
set_option maxHeartbeats 8000000 in
set_option maxRecDepth 100000 in
theorem bits_Mul32.calls (a0:Int) (a1:Int) (r1:Int) (r2:Int) (w:World) (h:bits_Mul32.f a0 a1=some (r1,r2)) :
  Calls Tryd.prog 74 #[.int .u32 a0,.int .u32 a1] w fun e w'=>e=.returned (.tuple #[.int .u32 r1,.int .u32 r2])∧Drawn0 w w':=by
 have H:(some (((IntKind.u64.wrap ((IntKind.u64.wrap (a0)) * (IntKind.u64.wrap (a1)))) / 4294967296) % 4294967296,(IntKind.u64.wrap ((IntKind.u64.wrap (a0)) * (IntKind.u64.wrap (a1)))) % 4294967296))=some (r1,r2):=h
 clear h
 simp only [Option.some.injEq,Prod.mk.injEq] at H
 obtain ⟨rfl,rfl⟩:=H
 go_enter Tryd.func74,Tryd.ntmps74
 go_wp2
 go_ret2
 exact ⟨by first|(with_reducible rfl)|(simp;done)|(simp [*];done)|rfl|(simp only [not_isEmpty_bne]),by repeat (first|exact Drawn0.refl _|apply Drawn0.step)⟩

/-! ### bits_Mul64: function 75 -/
def bits_Mul64.f (a0:Int) (a1:Int):Option (Int × Int):=some (IntKind.u64.wrap ((IntKind.u64.wrap ((IntKind.u64.wrap ((a0 / 4294967296) * (a1 / 4294967296))) + ((IntKind.u64.wrap ((IntKind.u64.wrap ((a0 / 4294967296) * (Go.bits .and .u64 a1 4294967295))) + ((IntKind.u64.wrap ((Go.bits .and .u64 a0 4294967295) * (Go.bits .and .u64 a1 4294967295))) / 4294967296))) / 4294967296))) + ((IntKind.u64.wrap ((Go.bits .and .u64 (IntKind.u64.wrap ((IntKind.u64.wrap ((a0 / 4294967296) * (Go.bits .and .u64 a1 4294967295))) + ((IntKind.u64.wrap ((Go.bits .and .u64 a0 4294967295) * (Go.bits .and .u64 a1 4294967295))) / 4294967296))) 4294967295) + (IntKind.u64.wrap ((Go.bits .and .u64 a0 4294967295) * (a1 / 4294967296))))) / 4294967296)),IntKind.u64.wrap (a0 * a1))
set_option maxHeartbeats 8000000 in
set_option maxRecDepth 100000 in
theorem bits_Mul64.calls (a0:Int) (a1:Int) (r1:Int) (r2:Int) (w:World) (h:bits_Mul64.f a0 a1=some (r1,r2)) :
  Calls Tryd.prog 75 #[.int .u64 a0,.int .u64 a1] w fun e w'=>e=.returned (.tuple #[.int .u64 r1,.int .u64 r2])∧Drawn0 w w':=by
 have H:(some (IntKind.u64.wrap ((IntKind.u64.wrap ((IntKind.u64.wrap ((a0 / 4294967296) * (a1 / 4294967296))) + ((IntKind.u64.wrap ((IntKind.u64.wrap ((a0 / 4294967296) * (Go.bits .and .u64 a1 4294967295))) + ((IntKind.u64.wrap ((Go.bits .and .u64 a0 4294967295) * (Go.bits .and .u64 a1 4294967295))) / 4294967296))) / 4294967296))) + ((IntKind.u64.wrap ((Go.bits .and .u64 (IntKind.u64.wrap ((IntKind.u64.wrap ((a0 / 4294967296) * (Go.bits .and .u64 a1 4294967295))) + ((IntKind.u64.wrap ((Go.bits .and .u64 a0 4294967295) * (Go.bits .and .u64 a1 4294967295))) / 4294967296))) 4294967295) + (IntKind.u64.wrap ((Go.bits .and .u64 a0 4294967295) * (a1 / 4294967296))))) / 4294967296)),IntKind.u64.wrap (a0 * a1)))=some (r1,r2):=h
 clear h
 simp only [Option.some.injEq,Prod.mk.injEq] at H
 obtain ⟨rfl,rfl⟩:=H
 go_enter Tryd.func75,Tryd.ntmps75
 go_wp2
 go_ret2
 exact ⟨by first|(with_reducible rfl)|(simp;done)|(simp [*];done)|rfl|(simp only [not_isEmpty_bne]),by repeat (first|exact Drawn0.refl _|apply Drawn0.step)⟩

/-! ### bits_Mul: function 67 -/
def bits_Mul.f (a0:Int) (a1:Int):Option (Int × Int):=(bits_Mul64.f a0 a1).bind fun bt103=>(some (bt103.1,bt103.2))
set_option maxHeartbeats 8000000 in
set_option maxRecDepth 100000 in
theorem bits_Mul.calls (a0:Int) (a1:Int) (r1:Int) (r2:Int) (w:World) (h:bits_Mul.f a0 a1=some (r1,r2)) :
  Calls Tryd.prog 67 #[.int .u64 a0,.int .u64 a1] w fun e w'=>e=.returned (.tuple #[.int .u64 r1,.int .u64 r2])∧Drawn0 w w':=by
 have H:((bits_Mul64.f a0 a1).bind fun bt103=>(some (bt103.1,bt103.2)))=some (r1,r2):=h
 clear h
 replace H:=Option.bind_eq_some_iff.mp H
 obtain ⟨⟨t103,t104⟩,A30,H⟩:=H
 replace H:(some (t103,t104))=some (r1,r2):=H
 have A3:=Aside0.mk A30
 clear A30
 simp only [Option.some.injEq,Prod.mk.injEq] at H
 obtain ⟨rfl,rfl⟩:=H
 go_enter Tryd.func67,Tryd.ntmps67
 go_wp2_with (first|((with_reducible refine gate_callee (f:=75) rfl ?_);refine goesL_ (some 25) rfl rfl Tryd.func75 (by kernel_rfl) rfl #[.int .u64 a0,.int .u64 a1] rfl (by (try simp only [List.map_toArray,List.map_cons,List.map_nil]);first|done|rfl|(simp only [List.length_drop,List.length_take];rfl)|(simp (disch:=omega) only [u64_in];rfl)) ?_;(with_reducible refine (bits_Mul64.calls a0 a1 t103 t104 _ A3.out).mono ?_);rintro e w' ⟨rfl,⟨nd,rfl⟩⟩;refine ⟨_,rfl,?_⟩))
 go_ret2
 exact ⟨by first|(with_reducible rfl)|(simp;done)|(simp [*];done)|rfl|(simp only [not_isEmpty_bne]),by repeat (first|exact Drawn0.refl _|apply Drawn0.step)⟩

/-! ### api_Value_51: function 51 -/
theorem api_Value_51.src_at {W:World} {g t off n:Nat} {cur cs:List Value} (G:W.heap[g]?=some (.cells cur.toArray t (0,0))) (he:(cur.drop off).take n=cs):∀ j v,cs[j]?=some v→W.cell? ((⟨g,off,none⟩:Addr).add j)=some v:=by
 intro j v h
 subst he
 rw [List.getElem?_take] at h
 split at h
 ·rw [List.getElem?_drop] at h
  rw [add_at,blk_cell G (off + j)]
  simpa using h
 ·cases h
theorem api_Value_51.all_one {x0 x1 x2:Value} (h:∀ v ∈ [x0,x1,x2],v.oneCell'=true):∀ v ∈ [x0,x1,x2,x0,x1,x2],v.oneCell'=true:=by
 intro v hv
 apply h
 simp only [List.mem_cons,List.not_mem_nil,or_false] at hv ⊢
 rcases hv with h|h|h|h|h|h <;> simp [h]
set_option maxHeartbeats 4000000 in
set_option maxRecDepth 100000 in
theorem api_Value_51.rep6 (ad:Addr) (c0:Nat) (x0 x1 x2:Value) (w:World) (hx:∀ j v,[x0,x1,x2][j]?=some v→w.cell? (ad.add j)=some v) (h1:∀ v ∈ [x0,x1,x2],v.oneCell'=true) :
  Calls Tryd.prog 51 #[.slice (some ad) 1 c0,.int .i64 6] w fun e w'=>∃ g,e=.returned (.slice (some ⟨g,0,none⟩) 6 6)∧w.heap.size≤g∧w'.heap[g]?=some (.cells #[x0,x1,x2,x0,x1,x2,x0,x1,x2,x0,x1,x2,x0,x1,x2,x0,x1,x2] 24 (0,0))∧Below w.heap.size w w':=by
 have HX:=Aside0.mk hx
 have H1:=Aside0.mk h1
 clear hx h1
 have u26:=Tryd.underlying26
 have s24:(Tryd.prog.info? 24).map (·.size)=some 3:=by kernel_rfl
 have S24:=Aside0.mk s24
 clear s24
 have hmk:∀ W:World,(Instr.makeSlice 26 (.int .i64 6) (.int .i64 6)).run Tryd.prog W=.ok (.slice (some ⟨W.heap.size,0,none⟩) 6 6) (W.alloc (.cells #[.int .i64 0,.int .i64 0,.string ⟨#[]⟩,.int .i64 0,.int .i64 0,.string ⟨#[]⟩,.int .i64 0,.int .i64 0,.string ⟨#[]⟩,.int .i64 0,.int .i64 0,.string ⟨#[]⟩,.int .i64 0,.int .i64 0,.string ⟨#[]⟩,.int .i64 0,.int .i64 0,.string ⟨#[]⟩] 24)):=fun _=>by kernel_rfl
 go_enter Tryd.func51,Tryd.ntmps51
 go_wp2_with (first|(go_at_call 67;refine (bits_Mul.calls 1 6 0 6 _ rfl).mono ?_;rintro e w1 ⟨rfl,hd1⟩;have hb1:=hd1.below)|((refine gate_builtin (b:=.copy) (xs:=#[.tmp 31,.tmp 32]) rfl ?_);go_loud (refine XC.wpList_copyS rfl (.tmp 31) (.tmp 32) 26 26 rfl 24 u26 3 S24.out 6 6 ad 1 c0 w1.heap.size 0 ?hd ?hs [.int .i64 0,.int .i64 0,.string ⟨#[]⟩,.int .i64 0,.int .i64 0,.string ⟨#[]⟩,.int .i64 0,.int .i64 0,.string ⟨#[]⟩,.int .i64 0,.int .i64 0,.string ⟨#[]⟩,.int .i64 0,.int .i64 0,.string ⟨#[]⟩,.int .i64 0,.int .i64 0,.string ⟨#[]⟩] 24 ?hg [x0,x1,x2] ?hn ?hsrc ?hfit ?h1 w.heap.size w ?hb ?hBg ?_;(case hd=>go_simp);(case hs=>go_simp);(case hg=>exact heap_alloc_new _ _);(case hn=>rfl);(case hsrc=>exact fun j v h=>pw_cell_below (below_alloc hb1 _) (HX.out j v h));(case hfit=>simp);(case h1=>exact H1.out);(case hb=>exact below_alloc hb1 _);(case hBg=>exact hb1.size);intro w2 hg2 hb2;have G2:=Aside0.mk (show w2.heap[w1.heap.size]?=some (.cells #[x0,x1,x2,.int .i64 0,.int .i64 0,.string ⟨#[]⟩,.int .i64 0,.int .i64 0,.string ⟨#[]⟩,.int .i64 0,.int .i64 0,.string ⟨#[]⟩,.int .i64 0,.int .i64 0,.string ⟨#[]⟩,.int .i64 0,.int .i64 0,.string ⟨#[]⟩] 24 (0,0)) from hg2);have B2:=Aside0.mk hb2;have LE:=Aside0.mk hb1.size;clear hg2 hb2 hb1)))
 generalize hgg:w1.heap.size=g
 rw [hgg] at G2 LE
 clear hgg
 refine wp_loop_rounds 4 ?_
 (try go_wp2)
 rw [rounds_succ]
 go_wp2
 go_region_law (refine XC.step_copyS rfl (.tmp 41) (.tmp 44) 26 26 rfl 24 u26 3 S24.out 5 5 ⟨g,0,none⟩ 1 6 g 3 (by simp [Act.eval,Act.put]) (by simp [Act.eval,Act.put]) [x0,x1,x2,.int .i64 0,.int .i64 0,.string ⟨#[]⟩,.int .i64 0,.int .i64 0,.string ⟨#[]⟩,.int .i64 0,.int .i64 0,.string ⟨#[]⟩,.int .i64 0,.int .i64 0,.string ⟨#[]⟩,.int .i64 0,.int .i64 0,.string ⟨#[]⟩] 24 (by exact G2.out) [x0,x1,x2] rfl (api_Value_51.src_at (n:=3) (by exact G2.out) rfl) (by simp) H1.out w.heap.size w (by first|exact B2.out|exact below_drew B2.out) LE.out ?_;intro w3 hg2 hb2;have G3:=Aside0.mk (show w3.heap[g]?=some (.cells [x0,x1,x2,x0,x1,x2,.int .i64 0,.int .i64 0,.string ⟨#[]⟩,.int .i64 0,.int .i64 0,.string ⟨#[]⟩,.int .i64 0,.int .i64 0,.string ⟨#[]⟩,.int .i64 0,.int .i64 0,.string ⟨#[]⟩].toArray 24 (0,0)) from hg2);have B3:=Aside0.mk hb2;clear hg2 hb2)
 (try go_wp2)
 rw [rounds_succ]
 go_wp2
 go_region_law (refine XC.step_copyS rfl (.tmp 41) (.tmp 44) 26 26 rfl 24 u26 3 S24.out 4 4 ⟨g,0,none⟩ 2 6 g 6 (by simp [Act.eval,Act.put]) (by simp [Act.eval,Act.put]) [x0,x1,x2,x0,x1,x2,.int .i64 0,.int .i64 0,.string ⟨#[]⟩,.int .i64 0,.int .i64 0,.string ⟨#[]⟩,.int .i64 0,.int .i64 0,.string ⟨#[]⟩,.int .i64 0,.int .i64 0,.string ⟨#[]⟩] 24 (by exact G3.out) [x0,x1,x2,x0,x1,x2] rfl (api_Value_51.src_at (n:=6) (by exact G3.out) rfl) (by simp) (api_Value_51.all_one H1.out) w.heap.size w (by first|exact B3.out|exact below_drew B3.out) LE.out ?_;intro w4 hg2 hb2;have G4:=Aside0.mk (show w4.heap[g]?=some (.cells [x0,x1,x2,x0,x1,x2,x0,x1,x2,x0,x1,x2,.int .i64 0,.int .i64 0,.string ⟨#[]⟩,.int .i64 0,.int .i64 0,.string ⟨#[]⟩].toArray 24 (0,0)) from hg2);have B4:=Aside0.mk hb2;clear hg2 hb2)
 (try go_wp2)
 rw [rounds_succ]
 go_wp2
 go_region_law (refine XC.step_copyS rfl (.tmp 41) (.tmp 44) 26 26 rfl 24 u26 3 S24.out 2 2 ⟨g,0,none⟩ 4 6 g 12 (by simp [Act.eval,Act.put]) (by simp [Act.eval,Act.put]) [x0,x1,x2,x0,x1,x2,x0,x1,x2,x0,x1,x2,.int .i64 0,.int .i64 0,.string ⟨#[]⟩,.int .i64 0,.int .i64 0,.string ⟨#[]⟩] 24 (by exact G4.out) [x0,x1,x2,x0,x1,x2] rfl (api_Value_51.src_at (n:=6) (by exact G4.out) rfl) (by simp) (api_Value_51.all_one H1.out) w.heap.size w (by first|exact B4.out|exact below_drew B4.out) LE.out ?_;intro w5 hg2 hb2;have G5:=Aside0.mk (show w5.heap[g]?=some (.cells [x0,x1,x2,x0,x1,x2,x0,x1,x2,x0,x1,x2,x0,x1,x2,x0,x1,x2].toArray 24 (0,0)) from hg2);have B5:=Aside0.mk hb2;clear hg2 hb2)
 (try go_wp2)
 rw [rounds_succ]
 go_wp2
 go_ret
 exact ⟨g,rfl,LE.out,G5.out,B5.out⟩
def api_Value_51.f (l0:List S24) (a1:Int):Option (List S24):=if l0.length=1∧a1=6 then some (l0 ++ l0 ++ l0 ++ l0 ++ l0 ++ l0) else none
theorem api_Value_51.calls (A0:Option Addr) (c0:Nat) (l0:List S24) (a1:Int) (r:List S24) (w:World) (hr0:Kd.C k24 w A0 l0.length l0) (hc0:l0.length≤c0) (h:api_Value_51.f l0 a1=some r) :
  Calls Tryd.prog 51 #[.slice A0 l0.length c0,.int .i64 a1] w fun e w'=>∃ v0_:Value,e=.returned (v0_)∧Kd.R k24 24 w' w.heap.size (fun _=>True) v0_ r∧Below w.heap.size w w':=by
 unfold api_Value_51.f at h
 split at h
 case isFalse=>cases h
 rename_i hl
 obtain ⟨hl1,rfl⟩:=hl
 obtain rfl:=Option.some.inj h
 obtain ⟨x,rfl⟩:∃ x,l0=[x]:=by
  match l0,hl1 with
  | [x],_=>exact ⟨x,rfl⟩
 obtain ⟨ad,rfl,_⟩:=hr0.2.2 (Nat.succ_pos _)
 obtain ⟨inner,hi,hc⟩:=ReadsRow.inner_ hr0
 have hi2:=hi.2 0 x rfl
 have hlen:inner.length=3:=hi.1
 have e:inner=[.int .i64 x.f0,.int .i64 x.f1,.string x.f2]:=by
  have:=k24_open hi2
  rw [← this]
  show inner=(inner.drop (0 * 3)).take 3
  rw [Nat.zero_mul,List.drop_zero,List.take_of_length_le (by omega)]
 subst e
 refine (api_Value_51.rep6 ad c0 _ _ _ w hc (by intro v hv;simp only [List.mem_cons,List.not_mem_nil,or_false] at hv;rcases hv with rfl|rfl|rfl <;> rfl)).mono ?_
 rintro e w' ⟨g,rfl,hg,hb,hB⟩
 refine ⟨_,rfl,⟨fun _ _=>trivial,_,⟨rfl,.inr ⟨g,6,_,rfl,hg,hb,Nat.le_refl _,by decide,rfl,rfl⟩⟩,⟨rfl,fun j p hj=>?_⟩⟩,hB⟩
 match j,hj with
 | 0,hj=>cases hj;exact k24_mkM _ _ _ x
 | 1,hj=>cases hj;exact k24_mkM _ _ _ x
 | 2,hj=>cases hj;exact k24_mkM _ _ _ x
 | 3,hj=>cases hj;exact k24_mkM _ _ _ x
 | 4,hj=>cases hj;exact k24_mkM _ _ _ x
 | 5,hj=>cases hj;exact k24_mkM _ _ _ x
 | j + 6,hj=>simp at hj

/-! ### machine_First: function 28 -/
def machine_First.f (a0_0:Int) (a0_1:Int) (a0_2:ByteArray):Option (Int × (List (S24))):=(machine_number.f 0).bind fun bt107=>((api_Value_51.f (([(⟨bt107.1,bt107.2.1,bt107.2.2⟩:S24)]:List (S24))) 6).bind fun t113=>(if 0 < (t113.length:Int) then (some (0,(t113.set (0:Int).toNat (⟨a0_0,a0_1,a0_2⟩:S24)))) else (none)))
set_option maxHeartbeats 8000000 in
set_option maxRecDepth 100000 in
theorem machine_First.calls (a0_0:Int) (a0_1:Int) (a0_2:ByteArray) (r1:Int) (r2:List (S24)) (w:World) (h:machine_First.f a0_0 a0_1 a0_2=some (r1,r2)) :
  Calls Tryd.prog 28 #[.agg #[.int .i64 a0_0,.int .i64 a0_1,.string a0_2]] w fun e w'=>∃ v1_:Value,e=.returned (.agg #[.int .i64 r1,v1_])∧Kd.R k24 24 w' w.heap.size (fun _=>True) v1_ r2∧Below w.heap.size w w':=by
 have hu24:=Tryd.underlying24
 have hu28:=Tryd.underlying28
 have HB:=Aside0.mk (Below.refl w.heap.size w)
 have H:((machine_number.f 0).bind fun bt107=>((api_Value_51.f (([(⟨bt107.1,bt107.2.1,bt107.2.2⟩:S24)]:List (S24))) 6).bind fun t113=>(if 0 < (t113.length:Int) then (some (0,(t113.set (0:Int).toNat (⟨a0_0,a0_1,a0_2⟩:S24)))) else (none))))=some (r1,r2):=h
 clear h
 replace H:=Option.bind_eq_some_iff.mp H
 obtain ⟨⟨t107,t108,t109⟩,A20,H⟩:=H
 replace H:((api_Value_51.f (([(⟨t107,t108,t109⟩:S24)]:List (S24))) 6).bind fun t113=>(if 0 < (t113.length:Int) then (some (0,(t113.set (0:Int).toNat (⟨a0_0,a0_1,a0_2⟩:S24)))) else (none)))=some (r1,r2):=H
 have A2:=Aside0.mk A20
 clear A20
 obtain ⟨y110,hy110⟩:∃ y_:List (S24),y_=(([(⟨t107,t108,t109⟩:S24)]:List (S24))):=⟨_,rfl⟩
 replace H:((api_Value_51.f y110 6).bind fun t113=>(if 0 < (t113.length:Int) then (some (0,(t113.set (0:Int).toNat (⟨a0_0,a0_1,a0_2⟩:S24)))) else (none)))=some (r1,r2):=by first|(rw [hy110];with_reducible exact H)|(have H2_:=(Option.bind_some _ _).symm.trans H;rw [hy110];with_reducible exact H2_)|(have H2_:=(Option.bind_some _ _).symm.trans H;with_reducible exact H2_)|with_reducible exact H|(rw [hy110];exact H)|exact H
 have Ny110:=Aside0.mk hy110
 clear hy110
 replace H:=Option.bind_eq_some_iff.mp H
 obtain ⟨t113,A30,H⟩:=H
 replace H:(if 0 < (t113.length:Int) then (some (0,(t113.set (0:Int).toNat (⟨a0_0,a0_1,a0_2⟩:S24)))) else (none))=some (r1,r2):=H
 have A3:=Aside0.mk A30
 clear A30
 by_cases c4:0 < (t113.length:Int)
 ·rw [if_pos c4] at H
  have c4b0:decide (0 < (t113.length:Int))=true:=decide_eq_true c4
  have c4b1:decide (0 < t113.length)=true:=decide_eq_true (by omega)
  clear c4
  obtain ⟨y116,hy116⟩:∃ y_:List (S24),y_=(t113.set (0:Int).toNat (⟨a0_0,a0_1,a0_2⟩:S24)):=⟨_,rfl⟩
  replace H:(some (0,y116))=some (r1,r2):=by first|(rw [hy116];with_reducible exact H)|(have H2_:=(Option.bind_some _ _).symm.trans H;rw [hy116];with_reducible exact H2_)|(have H2_:=(Option.bind_some _ _).symm.trans H;with_reducible exact H2_)|with_reducible exact H|(rw [hy116];exact H)|exact H
  have Ny116:=Aside0.mk hy116
  clear hy116
  simp only [Option.some.injEq,Prod.mk.injEq] at H
  obtain ⟨rfl,rfl⟩:=H
  go_enter Tryd.func28,Tryd.ntmps28
  go_wp2_with (first|((with_reducible refine gate_dst (N:=1) rfl ?_);refine box_event ?hg (N:=1) ?hd (cs:=#[.int .i64 a0_0,.int .i64 a0_1,.string a0_2]) (t:=24) ?hr ?_;(case hd=>rfl);(case hg=>rfl);(case hr=>first|(go_simp;done)|(go_simp;rfl));intro gb105 hg w6 hbox hb;have BK105:=Aside0.mk (hbox);have GW105:=Aside0.mk ((by rw [hg];exact (below_size (by repeat (first|(with_reducible first|exact HB.out|apply zl1|apply zl2|apply zl3)|exact HB.out))):w.heap.size≤gb105));have GE105:=Aside0.mk ((by rw [hg];exact (below_size (by repeat (first|(with_reducible first|exact HB.out|apply zl1|apply zl2|apply zl3)|exact HB.out))):w.heap.size≤gb105));replace HB:=Aside0.mk (below_step (by repeat (first|(with_reducible first|exact HB.out|apply zl1|apply zl2|apply zl3)|exact HB.out)) hb);clear hb hbox hg)|((with_reducible refine gate_dst (N:=2) rfl ?_);refine box_event ?hg (N:=2) ?hd (cs:=#[.int .i64 0,.slice none 0 0]) (t:=28) ?hr ?_;(case hd=>rfl);(case hg=>rfl);(case hr=>first|(go_simp;done)|(go_simp;rfl));intro gb106 hg w7 hbox hb;have BK106:=Aside0.mk (hbox);have GW106:=Aside0.mk ((by rw [hg];exact (below_size (by repeat (first|(with_reducible first|exact HB.out|apply zl1|apply zl2|apply zl3|refine below_set ?_ GE105.out)|exact HB.out))):w.heap.size≤gb106));have GE106:=Aside0.mk ((by rw [hg];exact (below_size (by repeat (first|(with_reducible first|exact HB.out|apply zl1|apply zl2|apply zl3|refine below_set ?_ GE105.out)|exact HB.out))):w.heap.size≤gb106));replace HB:=Aside0.mk (below_step (by repeat (first|(with_reducible first|exact HB.out|apply zl1|apply zl2|apply zl3|refine below_set ?_ GE105.out)|exact HB.out)) hb);have NB105_106:=Aside0.mk ((by rw [hg];exact Nat.ne_of_lt (blk_lt (g:=gb105) (o:=.cells #[.int .i64 a0_0,.int .i64 a0_1,.string a0_2] 24 (0,0)) (by (with_reducible repeat (first|apply zb1|apply zb2|apply zb3));exact BK105.out)):gb105 ≠ gb106));have NB106_105:=Aside0.mk ((by rw [hg];exact Nat.ne_of_gt (blk_lt (g:=gb105) (o:=.cells #[.int .i64 a0_0,.int .i64 a0_1,.string a0_2] 24 (0,0)) (by (with_reducible repeat (first|apply zb1|apply zb2|apply zb3));exact BK105.out)):gb106 ≠ gb105));replace BK105:=Aside0.mk (blk_below (g:=gb105) (o:=.cells #[.int .i64 a0_0,.int .i64 a0_1,.string a0_2] 24 (0,0)) (by (with_reducible repeat (first|apply zb1|apply zb2|apply zb3));exact BK105.out) hb);clear hb hbox hg)|((with_reducible refine gate_callee (f:=52) rfl ?_);refine goesL_ (some 4) rfl rfl Tryd.func52 (by kernel_rfl) rfl #[.int .i64 0] rfl (by (try simp only [List.map_toArray,List.map_cons,List.map_nil]);first|done|rfl|(simp only [List.length_drop,List.length_take];rfl)|(simp (disch:=omega) only [u64_in];rfl)) ?_;(with_reducible refine (machine_number.calls 0 t107 t108 t109 _ A2.out).mono ?_);rintro e w8 ⟨rfl,hb⟩;refine ⟨_,rfl,?_⟩;replace BK105:=Aside0.mk (blk_below (g:=gb105) (o:=.cells #[.int .i64 a0_0,.int .i64 a0_1,.string a0_2] 24 (0,0)) (by (with_reducible repeat (first|apply zb1|apply zb2|apply zb3));exact BK105.out) hb);replace BK106:=Aside0.mk (blk_below (g:=gb106) (o:=.cells #[.int .i64 0,.slice none 0 0] 28 (0,0)) (by (with_reducible repeat (first|apply zb1|apply zb2|apply zb3));exact BK106.out) hb);replace HB:=Aside0.mk (below_step (by repeat (first|(with_reducible first|exact HB.out|apply zl1|apply zl2|apply zl3|refine below_set ?_ GE105.out|refine below_set ?_ GE106.out)|exact HB.out)) hb);(try clear hb))|((with_reducible refine gate_dst (N:=5) rfl ?_);refine Kd.R_lit k24 _ 24 ?hg (N:=5) ?hd (xs:=([(⟨t107,t108,t109⟩:S24)]:List (S24))) (inner:=[.int .i64 t107,.int .i64 t108,.string t109]) (ok:=fun _=>True) (okp:=fun _=>True) ?hr ?hp (fun _ hk=>hk) trivial (Below.refl _ _) (Nat.le_refl _) (by simp) ?_;(case hd=>rfl);(case hg=>rfl);(case hr=>first|(go_simp;done)|(go_simp;rfl));(case hp=>exact (Reps.c3 (show Kd.M k24 _ _ _ (⟨t107,t108,t109⟩:S24) [.int .i64 t107,.int .i64 t108,.string t109] from (k24_mkM _ _ _ (⟨t107,t108,t109⟩:S24) )) (Reps.none _ _)));intro v111 w9 ho10 hb hg_ hnew_;clear hg_ hnew_;(first|rw [← Ny110.out] at ho10|(simp only [Int.reduceToNat] at ho10;rw [← Ny110.out] at ho10));have HO112:=Aside0.mk (Kd.R_lower (Kd.R_newB ho10 (g:=gb105) (o:=.cells #[.int .i64 a0_0,.int .i64 a0_1,.string a0_2] 24 (0,0)) (by (with_reducible repeat (first|apply zb1|apply zb2|apply zb3));exact BK105.out)) (below_size (by repeat (first|(with_reducible first|exact HB.out|apply zl1|apply zl2|apply zl3|refine below_set ?_ GE105.out|refine below_set ?_ GE106.out)|exact HB.out))));replace BK105:=Aside0.mk (blk_below (g:=gb105) (o:=.cells #[.int .i64 a0_0,.int .i64 a0_1,.string a0_2] 24 (0,0)) (by (with_reducible repeat (first|apply zb1|apply zb2|apply zb3));exact BK105.out) hb);replace BK106:=Aside0.mk (blk_below (g:=gb106) (o:=.cells #[.int .i64 0,.slice none 0 0] 28 (0,0)) (by (with_reducible repeat (first|apply zb1|apply zb2|apply zb3));exact BK106.out) hb);replace HB:=Aside0.mk (below_step (by repeat (first|(with_reducible first|exact HB.out|apply zl1|apply zl2|apply zl3|refine below_set ?_ GE105.out|refine below_set ?_ GE106.out)|exact HB.out)) hb);clear hb ho10;obtain ⟨Ao11,co11,eo11⟩:=Kd.R_slice HO112.out;subst eo11)|((with_reducible refine gate_callee (f:=51) rfl ?_);refine goesL_ (some 6) rfl rfl Tryd.func51 (by kernel_rfl) rfl #[.slice Ao11 y110.length co11,.int .i64 6] rfl (by (try simp only [List.map_toArray,List.map_cons,List.map_nil]);first|done|rfl|(simp only [List.length_drop,List.length_take];rfl)|(simp (disch:=omega) only [u64_in];rfl)) ?_;(with_reducible refine (api_Value_51.calls _ _ y110 6 t113 _ ?side1 ?side2 A3.out).mono ?_);(case side1=>repeat (first|exact (Kd.R_reads' HO112.out).2.2|(with_reducible refine Kd.C_alloc ?_ _)|(with_reducible refine Kd.C_drewN ?_ _)|(with_reducible refine Kd.C_drew ?_)));(case side2=>exact (Kd.R_reads' HO112.out).2.1);rintro e w12 ⟨v114,rfl,ho0,hb⟩;refine ⟨_,rfl,?_⟩;have HO115:=Aside0.mk (Kd.R_lower (Kd.R_newB (Kd.R_new' ho0 (Kd.R_lt (by (with_reducible repeat (first|apply zk1|apply zk2|apply zk3));exact HO112.out))) (g:=gb105) (o:=.cells #[.int .i64 a0_0,.int .i64 a0_1,.string a0_2] 24 (0,0)) (by (with_reducible repeat (first|apply zb1|apply zb2|apply zb3));exact BK105.out)) (below_size (by repeat (first|(with_reducible first|exact HB.out|apply zl1|apply zl2|apply zl3|refine below_set ?_ GE105.out|refine below_set ?_ GE106.out)|exact HB.out))));replace HO112:=Aside0.mk (Kd.R_elder' (by (with_reducible repeat (first|apply zk1|apply zk2|apply zk3));exact HO112.out) (Kd.R_base ho0) hb);replace BK105:=Aside0.mk (blk_below (g:=gb105) (o:=.cells #[.int .i64 a0_0,.int .i64 a0_1,.string a0_2] 24 (0,0)) (by (with_reducible repeat (first|apply zb1|apply zb2|apply zb3));exact BK105.out) hb);replace BK106:=Aside0.mk (blk_below (g:=gb106) (o:=.cells #[.int .i64 0,.slice none 0 0] 28 (0,0)) (by (with_reducible repeat (first|apply zb1|apply zb2|apply zb3));exact BK106.out) hb);replace HB:=Aside0.mk (below_step (by repeat (first|(with_reducible first|exact HB.out|apply zl1|apply zl2|apply zl3|refine below_set ?_ GE105.out|refine below_set ?_ GE106.out)|exact HB.out)) hb);(try clear hb);(try clear ho0);have hnb13:=NB105_106.out;have hnc13:=NB106_105.out;obtain ⟨hcz14_0,hcz14_1,hcz14_2⟩:=zc3 BK105.out;obtain ⟨hfz14_0,hfz14_1,hfz14_2⟩:=zf3 BK105.out;have p5:0≤(0:Int):=(by omega);have q5:(0:Int) < ((t113.length:Int):Int):=of_decide_eq_true (by first|(with_reducible assumption)|assumption);have qi5:(0 < t113.length)=True:=eq_true (by omega);obtain ⟨go5,co5,eo5,gb5,gl5,cl5,HG5⟩:=Kd.R_form HO115.out (by omega);(first|cases eo5|(injection eo5 with ea_ en_ ec_;(first|subst ea_|(injection ea_ with ea_;subst ea_));subst ec_;clear en_));have GB5:=Aside0.mk gb5;have GG5:=Aside0.mk HG5;clear gb5 gl5 HG5;obtain ⟨ce5,hcl5,hM5,hcc5,hfr5⟩:=Kd.R_elem HO115.out z24 (0:Int) p5 q5;obtain rfl:=k24_openM hM5;have hx5_0:w12.cell? ⟨go5,(0:Int).toNat * 3,none⟩=some (.int .i64 ((rd_T24 t113 0).f0)):=hcc5 0 _ rfl;have hx5_1:w12.cell? ⟨go5,(0:Int).toNat * 3 + 1,none⟩=some (.int .i64 ((rd_T24 t113 0).f1)):=hcc5 1 _ rfl;have hx5_2:w12.cell? ⟨go5,(0:Int).toNat * 3 + 2,none⟩=some (.string ((rd_T24 t113 0).f2)):=hcc5 2 _ rfl;have hf5_0:w12.frozen? ⟨go5,(0:Int).toNat * 3,none⟩=false:=hfr5 0;have hf5_1:w12.frozen? ⟨go5,(0:Int).toNat * 3 + 1,none⟩=false:=hfr5 1;have hf5_2:w12.frozen? ⟨go5,(0:Int).toNat * 3 + 2,none⟩=false:=hfr5 2;clear hcl5 hcc5 hfr5 hM5;(try rw [show ((0:Int)).toNat=0 from rfl] at hx5_0);(try simp only [Nat.reduceMul,Nat.zero_mul,Nat.zero_add,Nat.reduceAdd] at hx5_0);(try rw [show ((0:Int)).toNat=0 from rfl] at hf5_0);(try simp only [Nat.reduceMul,Nat.zero_mul,Nat.zero_add,Nat.reduceAdd] at hf5_0);(try rw [show ((0:Int)).toNat=0 from rfl] at hx5_1);(try simp only [Nat.reduceMul,Nat.zero_mul,Nat.zero_add,Nat.reduceAdd] at hx5_1);(try rw [show ((0:Int)).toNat=0 from rfl] at hf5_1);(try simp only [Nat.reduceMul,Nat.zero_mul,Nat.zero_add,Nat.reduceAdd] at hf5_1);(try rw [show ((0:Int)).toNat=0 from rfl] at hx5_2);(try simp only [Nat.reduceMul,Nat.zero_mul,Nat.zero_add,Nat.reduceAdd] at hx5_2);(try rw [show ((0:Int)).toNat=0 from rfl] at hf5_2);(try simp only [Nat.reduceMul,Nat.zero_mul,Nat.zero_add,Nat.reduceAdd] at hf5_2);replace p5:=eq_true p5;replace q5:=eq_true q5;have n_:=Aside0.mk (Kd.R_mono (ok':=(fun k_=>some k_ ≠ (.slice Ao11 y110.length co11:Value).ownBlock∧k_ ≠ gb105)) HO115.out (fun k_ hk=>⟨hk.1.2,hk.2⟩));clear HO115;have HO115:=n_;clear n_;have HX15:=Aside0.mk (show Kd.R k24 24 w12 w.heap.size (fun k_=>some k_ ≠ (.slice Ao11 y110.length co11:Value).ownBlock∧k_ ≠ gb105) (.slice (some ⟨go5,0,none⟩) t113.length co5) t113 from (by (with_reducible repeat (first|apply zk1|apply zk2|apply zk3));exact HO115.out));obtain ⟨ce15,hcl15,hM15,hcc15,hfr15⟩:=Kd.R_elem HX15.out z24 (0:Int) (by omega) (by have h_:(0:Int) < ((t113.length:Int):Int):=of_decide_eq_true (by first|(with_reducible assumption)|assumption);first|exact h_|(have e_:=(Kd.R_reads' HO115.out).1;omega)|simpa using h_);obtain rfl:=k24_openM hM15;have HP15:=Kd.R_seg HX15.out (0:Int) (by omega) (by have h_:(0:Int) < ((t113.length:Int):Int):=of_decide_eq_true (by first|(with_reducible assumption)|assumption);first|exact h_|(have e_:=(Kd.R_reads' HO115.out).1;omega)|simpa using h_) (seg:=[.int .i64 a0_0,.int .i64 a0_1,.string a0_2]) (j:=0) hcl15 hcc15 (show 3≤3 from by decide) (x':=(⟨a0_0,a0_1,a0_2⟩:S24)) (k24_mkM _ _ _ (⟨a0_0,a0_1,a0_2⟩:S24) ) (fun _ hk=>hk);have hx15_0:=hcc15 0 _ rfl;(try simp only [show (k24).sz=3 from rfl,Nat.mul_one,Nat.add_zero] at hx15_0);(try rw [show ((0:Int)).toNat=0 from rfl] at hx15_0);(try simp only [Nat.reduceMul,Nat.zero_mul,Nat.zero_add,Nat.reduceAdd] at hx15_0);have hf15_0:=hfr15 0;(try simp only [show (k24).sz=3 from rfl,Nat.mul_one,Nat.add_zero] at hf15_0);(try rw [show ((0:Int)).toNat=0 from rfl] at hf15_0);(try simp only [Nat.reduceMul,Nat.zero_mul,Nat.zero_add,Nat.reduceAdd] at hf15_0);have hx15_1:=hcc15 1 _ rfl;(try simp only [show (k24).sz=3 from rfl,Nat.mul_one,Nat.add_zero] at hx15_1);(try rw [show ((0:Int)).toNat=0 from rfl] at hx15_1);(try simp only [Nat.reduceMul,Nat.zero_mul,Nat.zero_add,Nat.reduceAdd] at hx15_1);have hf15_1:=hfr15 1;(try simp only [show (k24).sz=3 from rfl,Nat.mul_one,Nat.add_zero] at hf15_1);(try rw [show ((0:Int)).toNat=0 from rfl] at hf15_1);(try simp only [Nat.reduceMul,Nat.zero_mul,Nat.zero_add,Nat.reduceAdd] at hf15_1);have hx15_2:=hcc15 2 _ rfl;(try simp only [show (k24).sz=3 from rfl,Nat.mul_one,Nat.add_zero] at hx15_2);(try rw [show ((0:Int)).toNat=0 from rfl] at hx15_2);(try simp only [Nat.reduceMul,Nat.zero_mul,Nat.zero_add,Nat.reduceAdd] at hx15_2);have hf15_2:=hfr15 2;(try simp only [show (k24).sz=3 from rfl,Nat.mul_one,Nat.add_zero] at hf15_2);(try rw [show ((0:Int)).toNat=0 from rfl] at hf15_2);(try simp only [Nat.reduceMul,Nat.zero_mul,Nat.zero_add,Nat.reduceAdd] at hf15_2);clear hcl15 hcc15 hfr15 hM15)|((with_reducible refine gate_store (t:=24) (p:=9) rfl ?_);refine store_event (t:=24) (p:=9) (v:=?vo_w16) (w1:=(((w12.setCell ⟨go5,0,none⟩ (.int .i64 a0_0)).setCell ⟨go5,1,none⟩ (.int .i64 a0_1)).setCell ⟨go5,2,none⟩ (.string a0_2))) ?hg ?ho ?hn ?hr ?_;(case ho=>rfl);(case hg=>rfl);(case hn=>rfl);(case hr=>first|(go_simp;done)|(go_simp;rfl));intro w16 hw;have hg:w12.grownBy w16 (some go5):=(by rw [hw];exact HP15.2);have hp_:Kd.R k24 24 w16 w.heap.size (fun k_=>some k_ ≠ (.slice Ao11 y110.length co11:Value).ownBlock∧k_ ≠ gb105) (.slice (some ⟨go5,0,none⟩) t113.length co5) y116:=(by rw [hw,Ny116.out];exact HP15.1);clear HP15;replace BK105:=Aside0.mk (blk_grown (g:=gb105) (o:=.cells #[.int .i64 a0_0,.int .i64 a0_1,.string a0_2] 24 (0,0)) (by (with_reducible repeat (first|apply zb1|apply zb2|apply zb3));exact BK105.out) hg (Kd.R_away HO115.out (fun _ hk=>hk.2)));replace BK106:=Aside0.mk (blk_grown (g:=gb106) (o:=.cells #[.int .i64 0,.slice none 0 0] 28 (0,0)) (by (with_reducible repeat (first|apply zb1|apply zb2|apply zb3));exact BK106.out) hg (Kd.R_ne HO115.out BK106.out (by decide)));replace HO112:=Aside0.mk (Kd.R_after (v:=(.slice (some ⟨go5,0,none⟩) t113.length co5)) (v1:=(.slice (some ⟨go5,0,none⟩) t113.length co5)) (ok:=(fun k_=>k_ ≠ gb105)) (by (with_reducible repeat (first|apply zk1|apply zk2|apply zk3));exact Kd.R_mono HO112.out (fun _ hk=>⟨hk.1.2,hk.2⟩)) hg (.inl rfl));replace HO115:=Aside0.mk (hp_);replace HB:=Aside0.mk ((by rw [hw];exact below_set (below_set (below_set (HB.out) GB5.out) GB5.out) GB5.out:Below w.heap.size w w16));clear hg hw hp_;have hcz17_0:w16.cell? ⟨gb106,0,none⟩=some (.int .i64 0):=(blk_cell BK106.out 0).trans rfl;have hcz17_1:w16.cell? ⟨gb106,1,none⟩=some (.slice none 0 0):=(blk_cell BK106.out 1).trans rfl;have hfz17_0:=blk_frozen BK106.out 0;have hfz17_1:=blk_frozen BK106.out 1))
  refine bodyPost_ret (results_cell_row rfl _ _ gb106 28 #[.int .i64 0,.slice (some ⟨go5,0,none⟩) t113.length co5] (0,0) _ rfl (by apply zpe;(repeat (first|(with_reducible first|apply zb1|apply zb2|apply zb3|apply zpi|exact BK106.out)));rfl) Tryd.underlying28 rfl (by kernel_rfl)) rfl ?_
  exact ⟨_,by first|(with_reducible rfl)|(simp only [isEmpty_bne,Bool.not_not] <;> rfl)|rfl|(simp [*,errW_none,errW_some] <;> rfl),by (with_reducible repeat (first|apply zk1|apply zk2|apply zk3));exact Kd.R_mono (Kd.R_far (p:=⟨gb106,1,none⟩) (Kd.R_far (p:=⟨gb106,0,none⟩) (Kd.R_types HO115.out BK106.out (by decide)) (fun _ hk=>hk.2) (.int .i64 0)) (fun _ hk=>hk.2) (.slice (some ⟨go5,0,none⟩) t113.length co5)) (fun _ hk=>trivial),by repeat (first|(with_reducible first|exact HB.out|apply zl1|apply zl2|apply zl3|refine below_set ?_ GE105.out|refine below_set ?_ GE106.out)|exact HB.out)⟩
 ·rw [if_neg c4] at H
  exact absurd H (by simp)

/-! ### flows_within: function 53 -/
def flows_within.f (a0:Int) (a1:Int):Option (Bool):=if a0 ≥ 0 then (some (decide (a0≤a1))) else (some false)
set_option maxHeartbeats 8000000 in
set_option maxRecDepth 100000 in
theorem flows_within.calls (a0:Int) (a1:Int) (r:Bool) (w:World) (h:flows_within.f a0 a1=some r) :
  Calls Tryd.prog 53 #[.int .i64 a0,.int .i64 a1] w fun e w'=>e=.returned (.bool r)∧Drawn0 w w':=by
 have H:(if a0 ≥ 0 then (some (decide (a0≤a1))) else (some false))=some r:=h
 clear h
 by_cases c3:a0 ≥ 0
 ·rw [if_pos c3] at H
  have c3b0:decide (0≤a0)=true:=decide_eq_true c3
  clear c3
  obtain rfl:=Option.some.inj H
  go_enter Tryd.func53,Tryd.ntmps53
  go_wp2
  go_ret
  exact ⟨by first|(with_reducible rfl)|(simp;done)|(simp [*];done)|rfl|(simp only [not_isEmpty_bne]),by repeat (first|exact Drawn0.refl _|apply Drawn0.step)⟩
 ·rw [if_neg c3] at H
  have c3b0:decide (0≤a0)=false:=decide_eq_false c3
  clear c3
  obtain rfl:=Option.some.inj H
  go_enter Tryd.func53,Tryd.ntmps53
  go_wp2
  go_ret
  exact ⟨by first|(with_reducible rfl)|(simp;done)|(simp [*];done)|rfl|(simp only [not_isEmpty_bne]),by repeat (first|exact Drawn0.refl _|apply Drawn0.step)⟩

end Go.Proofs.YtobjnhkjahhfnaaDoor.PAll
