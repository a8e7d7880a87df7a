/- Printed walks of the functions that the laws reach: each function, what it computes, and that it does. No conditions. -/
import Derived.Test.YtljfichnlgfikaaDoorPAllx0
namespace Go.Proofs.YtljfichnlgfikaaDoor.PAll
open Go.RowKit Go.Proofs.YtljfichnlgfikaaDoor.XW Go.Proofs.YtljfichnlgfikaaDoor.XLib Go.Proofs.YtljfichnlgfikaaDoorW.PrintWords Go.Proofs.YtljfichnlgfikaaDoorW.PrintLast Go.Proofs.YtljfichnlgfikaaDoorW.PrintMore
attribute [local go_sem] max2_int min2_int max_two min_two max_three min_three max_four min_four   -- for this text's walks alone
set_option linter.unusedVariables false
set_option linter.unusedSimpArgs false

/-! ### code_Operands: function 14 -/
theorem code_Operands.wpList_build_ {P:Program} {ops:Array Oper} {rest:List Oper} {o:Oper} {a:Act} {w:World} {Q:Exit→Act→World→Prop} (cells:Array Value) (hg:o.guard=none) (t:TypeId) (parts:Array (Nat × Operand)) (ho:o.op=.build t parts)
  (hf:P.built t (parts.map fun (i,x)=>(i,a.eval x)).toList=some cells)
  (h:wpList P ops Q rest (a.put o.dst (.agg cells)) w):wpList P ops Q (o :: rest) a w :=
 wpList_build hg t parts ho (by rw [hf];rfl) (by rw [hf];exact h)
def code_Operands.n (op:Int):Int:=if op=1 then 1 else if op=2 then 2 else if op=9 then 1 else if op=10 ∨ op=11 ∨ op=12 then 2 else if op=13 ∨ op=14 ∨ op=15 ∨ op=18 ∨ op=19 then 1 else if op=17 then 0 else 3
def code_Operands.f (a0:Int):Option (Int × Bool):=some (if 0 < a0∧a0≤19 then (code_Operands.n a0,true) else (0,false))
def code_Operands.row:Array Value:=#[.int .i64 (-1),.int .i64 1,.int .i64 2,.int .i64 3,.int .i64 3,.int .i64 3,.int .i64 3,.int .i64 3,.int .i64 3,.int .i64 1,.int .i64 2,.int .i64 2,.int .i64 2,.int .i64 1,.int .i64 1,.int .i64 1,.int .i64 3,.int .i64 0,.int .i64 1,.int .i64 1]
theorem code_Operands.tab (w:World):Calls Tryd.prog 27 #[] w fun e w'=>e=.returned (.agg code_Operands.row)∧Below w.heap.size w w':=by
 go_enter Tryd.func27,Tryd.ntmps27
 go_wp2_with (first|(refine code_Operands.wpList_build_ code_Operands.row rfl 60 _ rfl (by kernel_rfl) ?_)|(refine wpList_store_row rfl 60 _ _ rfl w.heap.size code_Operands.row rfl rfl 60 _ (heap_alloc_last w _) (by kernel_rfl) (by kernel_rfl) (by kernel_rfl) ?_))
 rw [World.setRow_alloc_new]
 exact bodyPost_ret (v:=.agg code_Operands.row) (results_cell_row rfl _ _ w.heap.size 60 code_Operands.row (0,0) _ rfl (heap_alloc_last w _) Tryd.underlying60 rfl (by kernel_rfl)) rfl ⟨rfl,(Below.refl _ _).alloc (Nat.le_refl _) _⟩
set_option maxHeartbeats 4000000 in
set_option maxRecDepth 100000 in
theorem code_Operands.calls (a0:Int) (r1:Int) (r2:Bool) (w:World) (h:code_Operands.f a0=some (r1,r2)) :
  Calls Tryd.prog 14 #[.int .i64 a0] w fun e w'=>e=.returned (.tuple #[.int .i64 r1,.bool r2])∧Below w.heap.size w w':=by
 unfold code_Operands.f at h
 by_cases h1:a0≤0
 ·rw [if_neg (by omega)] at h
  simp only [Option.some.injEq,Prod.mk.injEq] at h
  obtain ⟨rfl,rfl⟩:=h
  go_enter Tryd.func14,Tryd.ntmps14
  go_wp2
  go_ret2
  exact ⟨rfl,Below.refl _ _⟩
 ·by_cases h2:a0 > 19
  ·rw [if_neg (by omega)] at h
   simp only [Option.some.injEq,Prod.mk.injEq] at h
   obtain ⟨rfl,rfl⟩:=h
   go_enter Tryd.func14,Tryd.ntmps14
   go_wp2
   go_ret2
   exact ⟨rfl,Below.refl _ _⟩
  ·rw [if_pos (by omega)] at h
   simp only [Option.some.injEq,Prod.mk.injEq] at h
   obtain ⟨rfl,rfl⟩:=h
   obtain ⟨k,rfl⟩:∃ k:Nat,a0=k:=⟨a0.toNat,by omega⟩
   have hx:∀ W:World,(Instr.index 60 (.agg code_Operands.row) (.int .i64 (k:Int))).run Tryd.prog W=.ok (.int .i64 (code_Operands.n k)) W:=by
    have:k=1 ∨ k=2 ∨ k=3 ∨ k=4 ∨ k=5 ∨ k=6 ∨ k=7 ∨ k=8 ∨ k=9 ∨ k=10 ∨ k=11 ∨ k=12 ∨ k=13 ∨ k=14 ∨ k=15 ∨ k=16 ∨ k=17 ∨ k=18 ∨ k=19:=by omega
    rcases this with rfl|rfl|rfl|rfl|rfl|rfl|rfl|rfl|rfl|rfl|rfl|rfl|rfl|rfl|rfl|rfl|rfl|rfl|rfl <;> exact fun W=>by kernel_rfl
   go_enter Tryd.func14,Tryd.ntmps14
   go_wp2_with (go_at_call 27;refine (code_Operands.tab _).mono ?_;rintro e w1 ⟨rfl,hb⟩)
   go_ret2
   exact ⟨rfl,hb⟩

/-! ### code_list: function 29 -/
def code_list.f (a0_0:Int) (a0_1:Int) (a0_2:Int) (a0_3:Int) (a0_4:Int) (a0_5:Int) (a0_6:ByteArray):Option (List Int):=some (([a0_1,a0_2,a0_3]:List Int))
set_option maxHeartbeats 8000000 in
set_option maxRecDepth 100000 in
theorem code_list.calls (a0_0:Int) (a0_1:Int) (a0_2:Int) (a0_3:Int) (a0_4:Int) (a0_5:Int) (a0_6:ByteArray) (r:List Int) (w:World) (h:code_list.f a0_0 a0_1 a0_2 a0_3 a0_4 a0_5 a0_6=some r) :
  Calls Tryd.prog 29 #[.agg #[.int .i64 a0_0,.int .i64 a0_1,.int .i64 a0_2,.int .i64 a0_3,.int .i64 a0_4,.int .i64 a0_5,.string a0_6]] w fun e w'=>∃ v0_:Value,e=.returned (v0_)∧Kd.R (Kd.int .i64) 3 w' w.heap.size (fun _=>True) v0_ r∧Below w.heap.size w w':=by
 have hu42:=Tryd.underlying42
 have HB:=Aside0.mk (Below.refl w.heap.size w)
 have H:(some (([a0_1,a0_2,a0_3]:List Int)))=some r:=h
 clear h
 obtain ⟨y102,hy102⟩:∃ y_:List Int,y_=(([a0_1,a0_2,a0_3]:List Int)):=⟨_,rfl⟩
 replace H:(some y102)=some r:=by first|(rw [hy102];with_reducible exact H)|(have H2_:=(Option.bind_some _ _).symm.trans H;rw [hy102];with_reducible exact H2_)|(have H2_:=(Option.bind_some _ _).symm.trans H;with_reducible exact H2_)|with_reducible exact H|(rw [hy102];exact H)|exact H
 have Ny102:=Aside0.mk hy102
 clear hy102
 obtain rfl:=Option.some.inj H
 go_enter Tryd.func29,Tryd.ntmps29
 go_wp2_with (first|((with_reducible refine gate_dst (N:=1) rfl ?_);refine box_event ?hg (N:=1) ?hd (cs:=#[.int .i64 a0_0,.int .i64 a0_1,.int .i64 a0_2,.int .i64 a0_3,.int .i64 a0_4,.int .i64 a0_5,.string a0_6]) (t:=42) ?hr ?_;(case hd=>rfl);(case hg=>rfl);(case hr=>first|(go_simp;done)|(go_simp;rfl));intro gb101 hg w2 hbox hb;have BK101:=Aside0.mk (hbox);have GW101:=Aside0.mk ((by rw [hg];exact (below_size (by repeat (first|(with_reducible first|exact HB.out|apply zl1|apply zl2|apply zl3)|exact HB.out))):w.heap.size≤gb101));have GE101:=Aside0.mk ((by rw [hg];exact (below_size (by repeat (first|(with_reducible first|exact HB.out|apply zl1|apply zl2|apply zl3)|exact HB.out))):w.heap.size≤gb101));replace HB:=Aside0.mk (below_step (by repeat (first|(with_reducible first|exact HB.out|apply zl1|apply zl2|apply zl3)|exact HB.out)) hb);clear hb hbox hg;obtain ⟨hcz3_0,hcz3_1,hcz3_2,hcz3_3,hcz3_4,hcz3_5,hcz3_6⟩:=zc7 BK101.out;obtain ⟨hfz3_0,hfz3_1,hfz3_2,hfz3_3,hfz3_4,hfz3_5,hfz3_6⟩:=zf7 BK101.out)|((with_reducible refine gate_dst (N:=9) rfl ?_);refine Kd.R_lit (Kd.int .i64) _ 3 ?hg (N:=9) ?hd (xs:=([a0_1,a0_2,a0_3]:List Int)) (inner:=[.int .i64 a0_1,.int .i64 a0_2,.int .i64 a0_3]) (ok:=fun _=>True) (okp:=fun _=>True) ?hr ?hp (fun _ hk=>hk) trivial (Below.refl _ _) (Nat.le_refl _) (by simp) ?_;(case hd=>rfl);(case hg=>rfl);(case hr=>first|(go_simp;done)|(go_simp;rfl));(case hp=>exact (Reps.one (show Kd.M (Kd.int .i64) _ _ _ a0_1 [.int .i64 a0_1] from rfl) (Reps.one (show Kd.M (Kd.int .i64) _ _ _ a0_2 [.int .i64 a0_2] from rfl) (Reps.one (show Kd.M (Kd.int .i64) _ _ _ a0_3 [.int .i64 a0_3] from rfl) (Reps.none _ _)))));intro v103 w4 ho5 hb hg_ hnew_;clear hg_ hnew_;(first|rw [← Ny102.out] at ho5|(simp only [Int.reduceToNat] at ho5;rw [← Ny102.out] at ho5));have HO104:=Aside0.mk (Kd.R_lower ho5 (below_size (by repeat (first|(with_reducible first|exact HB.out|apply zl1|apply zl2|apply zl3|refine below_set ?_ GE101.out)|exact HB.out))));replace BK101:=Aside0.mk (blk_below (g:=gb101) (o:=.cells #[.int .i64 a0_0,.int .i64 a0_1,.int .i64 a0_2,.int .i64 a0_3,.int .i64 a0_4,.int .i64 a0_5,.string a0_6] 42 (0,0)) (by (with_reducible repeat (first|apply zb1|apply zb2|apply zb3));exact BK101.out) hb);replace HB:=Aside0.mk (below_step (by repeat (first|(with_reducible first|exact HB.out|apply zl1|apply zl2|apply zl3|refine below_set ?_ GE101.out)|exact HB.out)) hb);clear hb ho5))
 go_ret
 exact ⟨_,by first|(with_reducible rfl)|(simp only [isEmpty_bne,Bool.not_not] <;> rfl)|rfl|(simp [*,errW_none,errW_some] <;> rfl),by (with_reducible repeat (first|apply zk1|apply zk2|apply zk3));exact HO104.out,by repeat (first|(with_reducible first|exact HB.out|apply zl1|apply zl2|apply zl3|refine below_set ?_ GE101.out)|exact HB.out)⟩

/-! ### pack_wide: function 41 -/
def pack_wide.f (a0:Int):Option (Int):=some (mn (mx a0 1) 8)
set_option maxHeartbeats 8000000 in
set_option maxRecDepth 100000 in
theorem pack_wide.calls (a0:Int) (r:Int) (w:World) (h:pack_wide.f a0=some r) :
  Calls Tryd.prog 41 #[.int .i64 a0] w fun e w'=>e=.returned (.int .i64 r)∧Below w.heap.size w w':=by
 have HB:=Aside0.mk (Below.refl w.heap.size w)
 have H:(some (mn (mx a0 1) 8))=some r:=h
 clear h
 obtain ⟨ji2,hji2⟩:∃ j_:Int,(mx a0 1)=j_:=⟨_,rfl⟩
 replace H:(some (mn (ji2) 8))=some r:=by first|(rw [hji2] at H;exact H)|(simp only [hji2] at H ⊢;exact H)
 (try (have hji2l:1≤ji2:=by (rw [← hji2];unfold mx;(repeat' split) <;> omega)))
 (try (have hji2m:0≤ji2:=by omega))
 have hji2_:(if a0 < 1 then 1 else a0)=ji2:=hji2
 obtain ⟨ji3,hji3⟩:∃ j_:Int,(mn (ji2) 8)=j_:=⟨_,rfl⟩
 replace H:(some ji3)=some r:=by first|(rw [hji3] at H;exact H)|(simp only [hji3] at H ⊢;exact H)
 have hji3_:(if 8 < (ji2) then 8 else (ji2))=ji3:=hji3
 obtain rfl:=Option.some.inj H
 go_enter Tryd.func41,Tryd.ntmps41
 go_wp2
 go_ret
 exact ⟨by first|(with_reducible rfl)|(simp only [isEmpty_bne,Bool.not_not] <;> with_reducible rfl)|(simp [errW_none,errW_some] <;> with_reducible rfl)|(simp only [isEmpty_bne,Bool.not_not] <;> rfl)|rfl|(simp [errW_none,errW_some] <;> rfl)|(simp only [← hji2,← hji3];first|rfl|(simp [errW_none,errW_some] <;> rfl))|(simp [*,errW_none,errW_some] <;> rfl),by repeat (first|(with_reducible first|exact HB.out|apply zl1|apply zl2|apply zl3)|exact HB.out)⟩

/-! ### pack_Fits: function 30 -/
def pack_Fits.f (a0:Int) (a1:Int):Option (Bool):=(pack_wide.f a1).bind fun t105=>(if 0≤(wrap64 ((wrap64 (8 * t105)) - 1)) then (some (((shr .u64 a0 (wrap64 ((wrap64 (8 * t105)) - 1))) / 2) == 0)) else (none))
set_option maxHeartbeats 8000000 in
set_option maxRecDepth 100000 in
theorem pack_Fits.calls (a0:Int) (a1:Int) (r:Bool) (w:World) (h:pack_Fits.f a0 a1=some r) :
  Calls Tryd.prog 30 #[.int .u64 a0,.int .i64 a1] w fun e w'=>e=.returned (.bool r)∧Below w.heap.size w w':=by
 have HB:=Aside0.mk (Below.refl w.heap.size w)
 have H:((pack_wide.f a1).bind fun t105=>(if 0≤(wrap64 ((wrap64 (8 * t105)) - 1)) then (some (((shr .u64 a0 (wrap64 ((wrap64 (8 * t105)) - 1))) / 2) == 0)) else (none)))=some r:=h
 clear h
 replace H:=Option.bind_eq_some_iff.mp H
 obtain ⟨t105,A30,H⟩:=H
 replace H:(if 0≤(wrap64 ((wrap64 (8 * t105)) - 1)) then (some (((shr .u64 a0 (wrap64 ((wrap64 (8 * t105)) - 1))) / 2) == 0)) else (none))=some r:=H
 have A3:=Aside0.mk A30
 clear A30
 obtain ⟨ji4,hji4⟩:∃ j_:Int,(wrap64 ((wrap64 (8 * t105)) - 1))=j_:=⟨_,rfl⟩
 replace H:(if 0≤(ji4) then (some (((shr .u64 a0 (ji4)) / 2) == 0)) else (none))=some r:=by first|(rw [hji4] at H;exact H)|(simp only [hji4] at H ⊢;exact H)
 (try rw [hji4] at A3)
 have hji4w:(IntKind.i64.wrap ((wrap64 (8 * t105)) - 1))=ji4:=(i64_w _).trans hji4
 by_cases c5:0≤(ji4)
 ·rw [if_pos c5] at H
  have c5b0:=eq_true c5
  have c5b1:decide (0≤(ji4))=true:=decide_eq_true c5
  clear c5
  obtain ⟨ji6,hji6⟩:∃ j_:Int,(shr .u64 a0 (ji4))=j_:=⟨_,rfl⟩
  replace H:(some (((ji6) / 2) == 0))=some r:=by first|(rw [hji6] at H;exact H)|(simp only [hji6] at H ⊢;exact H)
  (try rw [hji6] at A3)
  have hji6_:(a0 / 2 ^ min (ji4).toNat 64)=ji6:=hji6
  have hji6z:(ji4)≤64→(a0 / 2 ^ (ji4).toNat)=ji6:=shr_small hji6
  obtain rfl:=Option.some.inj H
  go_enter Tryd.func30,Tryd.ntmps30
  go_wp2_with (first|((with_reducible refine gate_callee (f:=41) rfl ?_);refine goesL_ (some 7) rfl rfl Tryd.func41 (by kernel_rfl) rfl #[.int .i64 a1] rfl (by (try simp only [List.map_toArray,List.map_cons,List.map_nil]);first|done|rfl|(simp only [List.length_drop,List.length_take];rfl)|(simp (disch:=omega) only [u64_in];rfl)) ?_;(with_reducible refine (pack_wide.calls a1 t105 _ A3.out).mono ?_);rintro e w7 ⟨rfl,hb⟩;refine ⟨_,rfl,?_⟩;replace HB:=Aside0.mk (below_step (by repeat (first|(with_reducible first|exact HB.out|apply zl1|apply zl2|apply zl3)|exact HB.out)) hb);(try clear hb)))
  go_ret
  exact ⟨by first|(with_reducible rfl)|(simp only [isEmpty_bne,Bool.not_not] <;> with_reducible rfl)|(simp [errW_none,errW_some] <;> with_reducible rfl)|(simp only [isEmpty_bne,Bool.not_not] <;> rfl)|rfl|(simp [errW_none,errW_some] <;> rfl)|(simp only [← hji4,← hji6];first|rfl|(simp [errW_none,errW_some] <;> rfl))|(simp [*,errW_none,errW_some] <;> rfl),by repeat (first|(with_reducible first|exact HB.out|apply zl1|apply zl2|apply zl3)|exact HB.out)⟩
 ·rw [if_neg c5] at H
  exact absurd H (by simp)

/-! ### pack_Num: function 32 -/
def pack_Num.l0:Nat→List Int→Int→Int→Option (List Int)
 | 0,_,_,_=>none
 | k + 1,x0,x1,x7=>if x7 ≥ 0 then (if 0≤(wrap64 (8 * x7)) then (if x0.length < 140737488355328 then (pack_Num.l0 k (x0 ++ [(shr .u64 x1 (wrap64 (8 * x7))) % 256]) x1 (wrap64 (x7 - 1))) else (none)) else (none)) else (some x0)
def pack_Num.f (k:Nat) (l0:List Int) (a1:Int) (a2:Int):Option (List Int):=(pack_wide.f a2).bind fun t106=>(pack_Num.l0 k l0 a1 (wrap64 (t106 - 1)))
theorem pack_Num.mono_l:∀ k,(∀ y0 y1 y2,LeO (pack_Num.l0 k y0 y1 y2) (pack_Num.l0 (k + 1) y0 y1 y2))
 | 0=>fun _ _ _ r h=>by simp [pack_Num.l0] at h
 | k + 1=>by
  have ih0:=pack_Num.mono_l k
  ·intro y0 y1 y2
   unfold pack_Num.l0
   repeat' first
   | (with_reducible exact ih0 _ _ _)
   | (with_reducible exact LeO.refl _)
   | (with_reducible exact LeO.none _)
   | (with_reducible refine LeO.ite ?_ ?_)
   | (with_reducible refine LeO.bind ?_ (fun _=>?_))
   | exact ih0 _ _ _
   | exact LeO.none _
   | refine LeO.ite ?_ ?_
   | refine LeO.bind ?_ (fun _=>?_)
theorem pack_Num.mono:∀ a0 a1 a2 k,LeO (pack_Num.f k a0 a1 a2) (pack_Num.f (k + 1) a0 a1 a2):=by
 intro a0 a1 a2 k
 have ih0:=pack_Num.mono_l k
 unfold pack_Num.f
 repeat' first
   | (with_reducible exact ih0 _ _ _)
   | (with_reducible exact LeO.refl _)
   | (with_reducible exact LeO.none _)
   | (with_reducible refine LeO.ite ?_ ?_)
   | (with_reducible refine LeO.bind ?_ (fun _=>?_))
   | exact ih0 _ _ _
   | exact LeO.none _
   | refine LeO.ite ?_ ?_
   | refine LeO.bind ?_ (fun _=>?_)
set_option maxHeartbeats 8000000 in
set_option maxRecDepth 100000 in
theorem pack_Num.calls (k:Nat) (P0_:Nat→Prop) (u9000_:Value) (l0:List Int) (a1:Int) (a2:Int) (r:List Int) (w0 w:World) (hB:Below w0.heap.size w0 w) (ho0:Kd.R (Kd.int .u8) 5 w w0.heap.size P0_ u9000_ l0) (h:pack_Num.f k l0 a1 a2=some r) :
  Calls Tryd.prog 32 #[u9000_,.int .u64 a1,.int .i64 a2] w fun e w'=>∃ v0_:Value,e=.returned (v0_)∧Kd.R (Kd.int .u8) 5 w' w0.heap.size (fun k_=>(P0_ k_ ∨ w.heap.size≤k_)) v0_ r∧Below w0.heap.size w0 w'∧Kept w w' (fun k_=>P0_ k_):=by
 have HO0:=Aside0.mk (show Kd.R (Kd.int .u8) 5 w w0.heap.size (fun k_=>(P0_ k_ ∨ w.heap.size≤k_)) u9000_ l0 from Kd.R_mono ho0 (fun k_ hk=>(.inl hk)))
 have HK:=Aside0.mk (Kept.refl w (fun k_=>P0_ k_))
 have HW0:=Aside0.mk hB.size
 have HB:=Aside0.mk hB
 clear hB
 have H:((pack_wide.f a2).bind fun t106=>(pack_Num.l0 k l0 a1 (wrap64 (t106 - 1))))=some r:=h
 clear h
 replace H:=Option.bind_eq_some_iff.mp H
 obtain ⟨t106,A40,H⟩:=H
 replace H:(pack_Num.l0 k l0 a1 (wrap64 (t106 - 1)))=some r:=H
 have A4:=Aside0.mk A40
 clear A40
 have H':=Aside0.mk H
 clear H
 go_enter Tryd.func32,Tryd.ntmps32
 go_wp2_with (first|((with_reducible refine gate_callee (f:=41) rfl ?_);refine goesL_ (some 9) rfl rfl Tryd.func41 (by kernel_rfl) rfl #[.int .i64 a2] rfl (by (try simp only [List.map_toArray,List.map_cons,List.map_nil]);first|done|rfl|(simp only [List.length_drop,List.length_take];rfl)|(simp (disch:=omega) only [u64_in];rfl)) ?_;(with_reducible refine (pack_wide.calls a2 t106 _ A4.out).mono ?_);rintro e w5 ⟨rfl,hb⟩;refine ⟨_,rfl,?_⟩;replace HO0:=Aside0.mk (Kd.R_below (by (with_reducible repeat (first|apply zk1|apply zk2|apply zk3));exact HO0.out) hb);replace HK:=Aside0.mk (Kept.below (S:=(fun k_=>P0_ k_)) (by repeat (first|(with_reducible first|exact HK.out|apply Kept.alloc|apply Kept.drewN|apply Kept.drew)|exact HK.out)) hb);replace HB:=Aside0.mk (below_step (by repeat (first|(with_reducible first|exact HB.out|apply zl1|apply zl2|apply zl3)|exact HB.out)) hb);(try clear hb)))
 go_loopg [0,7] k (fun kq v0 v7 w'=>∃ (x0_1:List Int) (x7_1:Int),v7=.int .i64 x7_1∧Aside0 (pack_Num.l0 kq x0_1 a1 x7_1=some r)∧Aside0 (kq≤k)∧Aside0 (Kd.R (Kd.int .u8) 5 w' w0.heap.size (fun k_=>(P0_ k_ ∨ w.heap.size≤k_)) v0 x0_1)∧Aside0 (Kept w w' (fun k_=>P0_ k_))∧Aside0 (Below w0.heap.size w0 w'))
 case atStart=>exact ⟨(l0),(wrap64 (t106 - 1)),(by first|(with_reducible rfl)|(simp;done)|(simp [*];done)|rfl|(simp only [not_isEmpty_bne])),H',⟨Nat.le_refl _⟩,⟨by (with_reducible repeat (first|apply zk1|apply zk2|apply zk3));exact HO0.out⟩,⟨by repeat (first|(with_reducible first|exact HK.out|apply Kept.alloc|apply Kept.drewN|apply Kept.drew)|exact HK.out)⟩,⟨by repeat (first|(with_reducible first|exact HB.out|apply zl1|apply zl2|apply zl3)|exact HB.out)⟩⟩
 case round =>
  clear H'
  try clear p2
  try clear c3
  try clear c4
  obtain ⟨x0_1,x7_1,rfl,HA,HK1,HO_0,HK,HB⟩:=hrel
  cases gk with
  | zero=>exact absurd HA.out (by simp [pack_Num.l0])
  | succ k1 =>
   have H:=HA.out
   clear HA
   simp only [pack_Num.l0] at H
   by_cases c6:x7_1 ≥ 0
   ·rw [if_pos c6] at H
    have c6b0:decide (0≤x7_1)=true:=decide_eq_true c6
    clear c6
    obtain ⟨ji7,hji7⟩:∃ j_:Int,(wrap64 (8 * x7_1))=j_:=⟨_,rfl⟩
    replace H:(if 0≤(ji7) then (if x0_1.length < 140737488355328 then (pack_Num.l0 k1 (x0_1 ++ [(shr .u64 a1 (ji7)) % 256]) a1 (wrap64 (x7_1 - 1))) else (none)) else (none))=some r:=by first|(rw [hji7] at H;exact H)|(simp only [hji7] at H ⊢;exact H)
    have hji7w:(IntKind.i64.wrap (8 * x7_1))=ji7:=(i64_w _).trans hji7
    by_cases c8:0≤(ji7)
    ·rw [if_pos c8] at H
     have c8b0:=eq_true c8
     have c8b1:decide (0≤(ji7))=true:=decide_eq_true c8
     clear c8
     obtain ⟨ji9,hji9⟩:∃ j_:Int,(shr .u64 a1 (ji7))=j_:=⟨_,rfl⟩
     replace H:(if x0_1.length < 140737488355328 then (pack_Num.l0 k1 (x0_1 ++ [(ji9) % 256]) a1 (wrap64 (x7_1 - 1))) else (none))=some r:=by first|(rw [hji9] at H;exact H)|(simp only [hji9] at H ⊢;exact H)
     have hji9_:(a1 / 2 ^ min (ji7).toNat 64)=ji9:=hji9
     have hji9z:(ji7)≤64→(a1 / 2 ^ (ji7).toNat)=ji9:=shr_small hji9
     by_cases c10:x0_1.length < 140737488355328
     ·rw [if_pos c10] at H
      have LMc10:=Aside0.mk c10
      clear c10
      obtain ⟨y107,hy107⟩:∃ y_:List Int,y_=(x0_1 ++ [(ji9) % 256]):=⟨_,rfl⟩
      replace H:(pack_Num.l0 k1 y107 a1 (wrap64 (x7_1 - 1)))=some r:=by first|(rw [hy107];with_reducible exact H)|(have H2_:=(Option.bind_some _ _).symm.trans H;rw [hy107];with_reducible exact H2_)|(have H2_:=(Option.bind_some _ _).symm.trans H;with_reducible exact H2_)|with_reducible exact H|(rw [hy107];exact H)|exact H
      have Ny107:=Aside0.mk hy107
      clear hy107
      have H':=Aside0.mk H
      clear H
      go_wp2_with (first|((with_reducible refine gate_builtin (b:=.append) (xs:=#[.tmp 15,.tmp 21]) rfl ?_);at_builtin;refine Kd.R_append (Kd.int .u8) (w0:=w0) w0.heap.size rfl (.tmp 15) (.tmp 21) 43 5 (.int .u8 0) 1 rfl Tryd.underlying43 info5 rfl (by decide) (by omega) u0 x0_1 ((ji9) % 256) [.int .u8 ((ji9) % 256)] (fun k_=>(P0_ k_ ∨ w.heap.size≤k_)) (fun _=>False) rfl rfl ?aP (fun _ hk=>hk.elim) ?aF ?aO ?aB ?aS ?aL ?_;(case aP=>exact rfl);(case aB=>exact (by repeat (first|(with_reducible first|exact HB.out|apply zl1|apply zl2|apply zl3)|exact HB.out)));(case aF=>exact (fun k_ hk=>(.inr (Nat.le_trans (by first|exact HK.out.1|exact (show Kept w _ (fun k_=>P0_ k_) from by repeat (first|(with_reducible first|exact HK.out|apply Kept.alloc|apply Kept.drewN|apply Kept.drew)|exact HK.out)).1) hk))));(case aO=>exact (by (with_reducible repeat (first|apply zk1|apply zk2|apply zk3));exact HO_0.out));(case aS=>exact (below_size (by repeat (first|(with_reducible first|exact HB.out|apply zl1|apply zl2|apply zl3)|exact HB.out))));(case aL=>have:=LMc10.out;omega);intro v108 w11 ho hb hg hat;rw [← Ny107.out] at ho;have n0_:=Aside0.mk (hb);have n1_:=Aside0.mk (Kept.of_grown (S:=(fun k_=>P0_ k_)) hg (by repeat (first|(with_reducible first|exact HK.out|apply Kept.alloc|apply Kept.drewN|apply Kept.drew)|exact HK.out)) (fun k_ e_=>(HO_0.out.1 k_ e_)));have n2_:=Aside0.mk (ho);clear HB;clear HK;clear HO_0;have HB:=n0_;have HK:=n1_;have HO109:=n2_;clear n0_ n1_ n2_;clear ho hb hg hat))
      go_roundg k1
      case measure=>have:=HK1.out;omega
      case rel=>exact ⟨(y107),(wrap64 (x7_1 - 1)),(by first|(with_reducible rfl)|(simp;done)|(simp [*];done)|rfl|(simp only [not_isEmpty_bne])),H',⟨by have:=HK1.out;omega⟩,⟨by (with_reducible repeat (first|apply zk1|apply zk2|apply zk3));exact HO109.out⟩,⟨by repeat (first|(with_reducible first|exact HK.out|apply Kept.alloc|apply Kept.drewN|apply Kept.drew)|exact HK.out)⟩,⟨by repeat (first|(with_reducible first|exact HB.out|apply zl1|apply zl2|apply zl3)|exact HB.out)⟩⟩
     ·rw [if_neg c10] at H
      exact absurd H (by simp)
    ·rw [if_neg c8] at H
     exact absurd H (by simp)
   ·rw [if_neg c6] at H
    have c6b0:decide (0≤x7_1)=false:=decide_eq_false c6
    clear c6
    obtain rfl:=Option.some.inj H
    go_wp2
    go_ret
    exact ⟨_,by first|(with_reducible rfl)|(simp only [isEmpty_bne,Bool.not_not] <;> rfl)|rfl|(simp [*,errW_none,errW_some] <;> rfl),by (with_reducible repeat (first|apply zk1|apply zk2|apply zk3));exact HO_0.out,by repeat (first|(with_reducible first|exact HB.out|apply zl1|apply zl2|apply zl3)|exact HB.out),by repeat (first|(with_reducible first|exact HK.out|apply Kept.alloc|apply Kept.drewN|apply Kept.drew)|exact HK.out)⟩

/-! ### strings_ReplaceAll: function 44 -/
def strings_ReplaceAll.f (a0:ByteArray) (a1:ByteArray) (a2:ByteArray):Option (ByteArray):=if a1=⟨#[0]⟩∧a2=⟨#[0,255]⟩∧a0.size + Lib.countByte a0.data.toList 0 * 2≤140737488355328 then some ⟨(esc a0.data.toList).toArray⟩ else none
theorem strings_ReplaceAll.calls (a0:ByteArray) (a1:ByteArray) (a2:ByteArray) (r:ByteArray) (w:World) (h:strings_ReplaceAll.f a0 a1 a2=some r) :
  Calls Tryd.prog 44 #[.string a0,.string a1,.string a2] w fun e w'=>e=.returned (.string r)∧Below w.heap.size w w':=by
 unfold strings_ReplaceAll.f at h
 split at h
 ·rename_i hc
  obtain ⟨rfl,rfl,hc⟩:=hc
  obtain rfl:=Option.some.inj h
  exact replaceAll Tryd.lays155 Tryd.Builder_Extra_155 a0 w hc
 ·cases h

end Go.Proofs.YtljfichnlgfikaaDoor.PAll
