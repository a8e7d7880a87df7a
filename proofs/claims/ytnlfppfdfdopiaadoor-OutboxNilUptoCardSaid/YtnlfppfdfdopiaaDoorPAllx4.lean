/- Printed walks of the functions that the laws reach: each function, what it computes, and that it does. No conditions. -/
import Derived.Test.YtnlfppfdfdopiaaDoorPAllx0
import Derived.Test.YtnlfppfdfdopiaaDoorPAllx1
import Derived.Test.YtnlfppfdfdopiaaDoorPAllx3
namespace Go.Proofs.YtnlfppfdfdopiaaDoor.PAll
open Go.RowKit Go.Proofs.YtnlfppfdfdopiaaDoor.XW Go.Proofs.YtnlfppfdfdopiaaDoor.XLib Go.Proofs.YtnlfppfdfdopiaaDoorW.PrintWords Go.Proofs.YtnlfppfdfdopiaaDoorW.PrintLast Go.Proofs.YtnlfppfdfdopiaaDoorW.PrintMore
attribute [local go_sem] max2_int min2_int max_two min_two max_three min_three max_four min_four   -- for this text's walks alone
set_option linter.unusedVariables false
set_option linter.unusedSimpArgs false

/-! ### pack_Str: function 61 -/
def pack_Str.f (l0:List Int) (a1:ByteArray):Option (List Int):=if 0≤(mn (a1.size:Int) 255) then (if (mn (a1.size:Int) 255)≤(a1.size:Int) then (if l0.length < 140737488355328 then ((some (l0 ++ [(((a1.extract 0 ((mn (a1.size:Int) 255):Int).toNat).size:Int)) % 256]:List Int)).bind fun y115=>(if y115.length + (a1.extract 0 ((mn (a1.size:Int) 255):Int).toNat).size < 140737488355328 then (some (y115 ++ bytesOf (a1.extract 0 ((mn (a1.size:Int) 255):Int).toNat))) else (none))) else (none)) else (none)) else (none)
set_option maxHeartbeats 8000000 in
set_option maxRecDepth 100000 in
theorem pack_Str.calls (P0_:Nat→Prop) (u9000_:Value) (l0:List Int) (a1:ByteArray) (r:List Int) (w0 w:World) (hB:Below w0.heap.size w0 w) (ho0:Kd.R (Kd.int .u8) 5 w w0.heap.size P0_ u9000_ l0) (h:pack_Str.f l0 a1=some r) :
  Calls Tryd.prog 61 #[u9000_,.string a1] w fun e w'=>∃ v0_:Value,e=.returned (v0_)∧Kd.R (Kd.int .u8) 5 w' w0.heap.size (fun k_=>(P0_ k_ ∨ w.heap.size≤k_)) v0_ r∧Below w0.heap.size w0 w'∧Kept w w' (fun k_=>P0_ k_):=by
 have HO0:=Aside0.mk (show Kd.R (Kd.int .u8) 5 w w0.heap.size (fun k_=>(P0_ k_ ∨ w.heap.size≤k_)) u9000_ l0 from Kd.R_mono ho0 (fun k_ hk=>(.inl hk)))
 have HK:=Aside0.mk (Kept.refl w (fun k_=>P0_ k_))
 have HW0:=Aside0.mk hB.size
 have HB:=Aside0.mk hB
 clear hB
 have H:(if 0≤(mn (a1.size:Int) 255) then (if (mn (a1.size:Int) 255)≤(a1.size:Int) then (if l0.length < 140737488355328 then ((some (l0 ++ [(((a1.extract 0 ((mn (a1.size:Int) 255):Int).toNat).size:Int)) % 256]:List Int)).bind fun y115=>(if y115.length + (a1.extract 0 ((mn (a1.size:Int) 255):Int).toNat).size < 140737488355328 then (some (y115 ++ bytesOf (a1.extract 0 ((mn (a1.size:Int) 255):Int).toNat))) else (none))) else (none)) else (none)) else (none))=some r:=h
 clear h
 obtain ⟨ji3,hji3⟩:∃ j_:Int,(mn (a1.size:Int) 255)=j_:=⟨_,rfl⟩
 replace H:(if 0≤(ji3) then (if (ji3)≤(a1.size:Int) then (if l0.length < 140737488355328 then ((some (l0 ++ [(((a1.extract 0 ((ji3):Int).toNat).size:Int)) % 256]:List Int)).bind fun y115=>(if y115.length + (a1.extract 0 ((ji3):Int).toNat).size < 140737488355328 then (some (y115 ++ bytesOf (a1.extract 0 ((ji3):Int).toNat))) else (none))) else (none)) else (none)) else (none))=some r:=by first|(rw [hji3] at H;exact H)|(simp only [hji3] at H ⊢;exact H)
 (try (have hji3h:ji3≤255:=by (rw [← hji3];unfold mn;(repeat' split) <;> omega)))
 (try (have hji3g:ji3≤64:=by omega))
 (try (have hji3l:0≤ji3:=by (rw [← hji3];unfold mn;(repeat' split) <;> omega)))
 (try (have hji3m:0≤ji3:=by omega))
 have hji3_:(if 255 < (a1.size:Int) then 255 else (a1.size:Int))=ji3:=hji3
 by_cases c4:0≤(ji3)
 ·rw [if_pos c4] at H
  have c4b0:=eq_true c4
  have c4b1:decide (0≤(ji3))=true:=decide_eq_true c4
  clear c4
  by_cases c5:(ji3)≤(a1.size:Int)
  ·rw [if_pos c5] at H
   have c5b0:=eq_true c5
   have c5b1:decide ((ji3)≤(a1.size:Int))=true:=decide_eq_true c5
   clear c5
   by_cases c6:l0.length < 140737488355328
   ·rw [if_pos c6] at H
    have LMc6:=Aside0.mk c6
    clear c6
    obtain ⟨y115,hy115⟩:∃ y_:List Int,y_=(l0 ++ [(((a1.extract 0 ((ji3):Int).toNat).size:Int)) % 256]):=⟨_,rfl⟩
    replace H:(if y115.length + (a1.extract 0 ((ji3):Int).toNat).size < 140737488355328 then (some (y115 ++ bytesOf (a1.extract 0 ((ji3):Int).toNat))) else (none))=some r:=by first|(rw [hy115];with_reducible exact H)|(have H2_:=(Option.bind_some _ _).symm.trans H;rw [hy115];with_reducible exact H2_)|(have H2_:=(Option.bind_some _ _).symm.trans H;with_reducible exact H2_)|with_reducible exact H|(rw [hy115];exact H)|exact H
    have Ny115:=Aside0.mk hy115
    clear hy115
    by_cases c7:y115.length + (a1.extract 0 ((ji3):Int).toNat).size < 140737488355328
    ·rw [if_pos c7] at H
     have LMc7:=Aside0.mk c7
     clear c7
     obtain ⟨y118,hy118⟩:∃ y_:List Int,y_=(y115 ++ bytesOf (a1.extract 0 ((ji3):Int).toNat)):=⟨_,rfl⟩
     replace H:(some y118)=some r:=by first|(rw [hy118];with_reducible exact H)|(have H2_:=(Option.bind_some _ _).symm.trans H;rw [hy118];with_reducible exact H2_)|(have H2_:=(Option.bind_some _ _).symm.trans H;with_reducible exact H2_)|with_reducible exact H|(rw [hy118];exact H)|exact H
     have Ny118:=Aside0.mk hy118
     clear hy118
     obtain rfl:=Option.some.inj H
     have hmx_:(((a1.extract 0 (ji3).toNat).size:Int)) % 256=max ji3 0:=by
      have h1_:0≤ji3:=by first|assumption|omega
      have h2_:ji3≤(a1.size:Int):=by first|assumption|(apply of_decide_eq_true;assumption)|omega
      rw [ByteArray.size_extract];omega
     go_enter Tryd.func61,Tryd.ntmps61
     go_wp2_with (first|((with_reducible refine gate_builtin (b:=.append) (xs:=#[.tmp 10,.tmp 14]) rfl ?_);at_builtin;refine Kd.R_append (Kd.int .u8) (w0:=w0) w0.heap.size rfl (.tmp 10) (.tmp 14) 64 5 (.int .u8 0) 1 rfl Tryd.underlying64 info5 rfl (by decide) (by omega) u9000_ l0 (max ji3 0) [.int .u8 (max ji3 0)] (fun k_=>(P0_ k_ ∨ w.heap.size≤k_)) (fun _=>False) rfl rfl ?aP (fun _ hk=>hk.elim) ?aF ?aO ?aB ?aS ?aL ?_;(case aP=>exact rfl);(case aB=>exact (by repeat (first|(with_reducible first|exact HB.out|apply zl1|apply zl2|apply zl3)|exact HB.out)));(case aF=>exact (fun k_ hk=>(.inr (Nat.le_trans (by first|exact HK.out.1|exact (show Kept w _ (fun k_=>P0_ k_) from by repeat (first|(with_reducible first|exact HK.out|apply Kept.alloc|apply Kept.drewN|apply Kept.drew)|exact HK.out)).1) hk))));(case aO=>exact (by (with_reducible repeat (first|apply zk1|apply zk2|apply zk3));exact HO0.out));(case aS=>exact (below_size (by repeat (first|(with_reducible first|exact HB.out|apply zl1|apply zl2|apply zl3)|exact HB.out))));(case aL=>have:=LMc6.out;omega);intro v116 w8 ho hb hg hat;rw [← hmx_,← Ny115.out] at ho;have n0_:=Aside0.mk (hb);have n1_:=Aside0.mk (Kept.of_grown (S:=(fun k_=>P0_ k_)) hg (by repeat (first|(with_reducible first|exact HK.out|apply Kept.alloc|apply Kept.drewN|apply Kept.drew)|exact HK.out)) (fun k_ e_=>(HO0.out.1 k_ e_)));have n2_:=Aside0.mk (ho);clear HB;clear HK;clear HO0;have HB:=n0_;have HK:=n1_;have HO117:=n2_;clear n0_ n1_ n2_;clear ho hb hg hat)|(at_builtin;refine R_strP (w0:=w0) w0.heap.size rfl (.tmp 15) _ 64 9 5 rfl Tryd.underlying64 Tryd.underlying9 info5 v116 y115 (a1.extract 0 ((ji3):Int).toNat) (fun k_=>(P0_ k_ ∨ w.heap.size≤k_)) rfl rfl ?aF ?aO ?aB ?aS ?aL ?_;(case aB=>exact (by repeat (first|(with_reducible first|exact HB.out|apply zl1|apply zl2|apply zl3)|exact HB.out)));(case aF=>exact (fun k_ hk=>(.inr (Nat.le_trans (by first|exact HK.out.1|exact (show Kept w _ (fun k_=>P0_ k_) from by repeat (first|(with_reducible first|exact HK.out|apply Kept.alloc|apply Kept.drewN|apply Kept.drew)|exact HK.out)).1) hk))));(case aO=>exact (by (with_reducible repeat (first|apply zk1|apply zk2|apply zk3));exact HO117.out));(case aS=>exact (below_size (by repeat (first|(with_reducible first|exact HB.out|apply zl1|apply zl2|apply zl3)|exact HB.out))));(case aL=>have:=LMc7.out;omega);intro v119 w9 ho hb hg hat;rw [← Ny118.out] at ho;have n0_:=Aside0.mk (hb);have n1_:=Aside0.mk (Kept.of_grown (S:=(fun k_=>P0_ k_)) hg (by repeat (first|(with_reducible first|exact HK.out|apply Kept.alloc|apply Kept.drewN|apply Kept.drew)|exact HK.out)) (fun k_ e_=>(HO117.out.1 k_ e_)));have n2_:=Aside0.mk (ho);clear HB;clear HK;clear HO117;have HB:=n0_;have HK:=n1_;have HO120:=n2_;clear n0_ n1_ n2_;clear ho hb hg hat))
     go_ret
     exact ⟨_,by first|(with_reducible rfl)|(simp only [isEmpty_bne,Bool.not_not] <;> with_reducible rfl)|(simp [errW_none,errW_some] <;> with_reducible rfl)|(simp only [isEmpty_bne,Bool.not_not] <;> rfl)|rfl|(simp [errW_none,errW_some] <;> rfl)|(simp only [← hji3];first|rfl|(simp [errW_none,errW_some] <;> rfl))|(simp [*,errW_none,errW_some] <;> rfl),by (with_reducible repeat (first|apply zk1|apply zk2|apply zk3));exact HO120.out,by repeat (first|(with_reducible first|exact HB.out|apply zl1|apply zl2|apply zl3)|exact HB.out),by repeat (first|(with_reducible first|exact HK.out|apply Kept.alloc|apply Kept.drewN|apply Kept.drew)|exact HK.out)⟩
    ·rw [if_neg c7] at H
     exact absurd H (by simp)
   ·rw [if_neg c6] at H
    exact absurd H (by simp)
  ·rw [if_neg c5] at H
   exact absurd H (by simp)
 ·rw [if_neg c4] at H
  exact absurd H (by simp)

/-! ### effects_put: function 49 -/
def effects_put.f (k:Nat) (l0:List Int) (a1_0:Int) (a1_1:Int) (a1_2:ByteArray):Option (List Int):=if l0.length < 140737488355328 then ((some (l0 ++ [(a1_0) % 256]:List Int)).bind fun y122=>(if a1_0=1 then ((pack_Num.f k y122 (IntKind.u64.wrap (a1_1)) 8).bind fun t125=>(some t125)) else ((pack_Str.f y122 a1_2).bind fun t128=>(some t128)))) else (none)
theorem effects_put.mono:∀ a0 a1 a2 a3 k,LeO (effects_put.f k a0 a1 a2 a3) (effects_put.f (k + 1) a0 a1 a2 a3):=by
 intro a0 a1 a2 a3 k
 unfold effects_put.f
 repeat' first
   | (with_reducible exact pack_Num.mono _ _ _ _)
   | (with_reducible exact LeO.refl _)
   | (with_reducible exact LeO.none _)
   | (with_reducible refine LeO.ite ?_ ?_)
   | (with_reducible refine LeO.bind ?_ (fun _=>?_))
   | exact pack_Num.mono _ _ _ _
   | exact LeO.none _
   | refine LeO.ite ?_ ?_
   | refine LeO.bind ?_ (fun _=>?_)
set_option maxHeartbeats 8000000 in
set_option maxRecDepth 100000 in
theorem effects_put.calls (k:Nat) (P0_:Nat→Prop) (u9000_:Value) (l0:List Int) (a1_0:Int) (a1_1:Int) (a1_2:ByteArray) (r:List Int) (w0 w:World) (hB:Below w0.heap.size w0 w) (ho0:Kd.R (Kd.int .u8) 5 w w0.heap.size P0_ u9000_ l0) (h:effects_put.f k l0 a1_0 a1_1 a1_2=some r) :
  Calls Tryd.prog 49 #[u9000_,.agg #[.int .i64 a1_0,.int .i64 a1_1,.string a1_2]] w fun e w'=>∃ v0_:Value,e=.returned (v0_)∧Kd.R (Kd.int .u8) 5 w' w0.heap.size (fun k_=>(P0_ k_ ∨ w.heap.size≤k_)) v0_ r∧Below w0.heap.size w0 w'∧Kept w w' (fun k_=>P0_ k_):=by
 have hu30:=Tryd.underlying30
 have HO0:=Aside0.mk (show Kd.R (Kd.int .u8) 5 w w0.heap.size (fun k_=>(P0_ k_ ∨ w.heap.size≤k_)) u9000_ l0 from Kd.R_mono ho0 (fun k_ hk=>(.inl hk)))
 have HK:=Aside0.mk (Kept.refl w (fun k_=>P0_ k_))
 have HW0:=Aside0.mk hB.size
 have HB:=Aside0.mk hB
 clear hB
 have H:(if l0.length < 140737488355328 then ((some (l0 ++ [(a1_0) % 256]:List Int)).bind fun y122=>(if a1_0=1 then ((pack_Num.f k y122 (IntKind.u64.wrap (a1_1)) 8).bind fun t125=>(some t125)) else ((pack_Str.f y122 a1_2).bind fun t128=>(some t128)))) else (none))=some r:=h
 clear h
 by_cases c3:l0.length < 140737488355328
 ·rw [if_pos c3] at H
  have LMc3:=Aside0.mk c3
  clear c3
  obtain ⟨y122,hy122⟩:∃ y_:List Int,y_=(l0 ++ [(a1_0) % 256]):=⟨_,rfl⟩
  replace H:(if a1_0=1 then ((pack_Num.f k y122 (IntKind.u64.wrap (a1_1)) 8).bind fun t125=>(some t125)) else ((pack_Str.f y122 a1_2).bind fun t128=>(some t128)))=some r:=by first|(rw [hy122];with_reducible exact H)|(have H2_:=(Option.bind_some _ _).symm.trans H;rw [hy122];with_reducible exact H2_)|(have H2_:=(Option.bind_some _ _).symm.trans H;with_reducible exact H2_)|with_reducible exact H|(rw [hy122];exact H)|exact H
  have Ny122:=Aside0.mk hy122
  clear hy122
  by_cases c4:a1_0=1
  ·rw [if_pos c4] at H
   have c4b0:(a1_0 == 1)=true:=beq_iff_eq.mpr c4
   have c4b1:(a1_0 != 1)=false:=bne_eq_false_iff_eq.mpr c4
   clear c4
   replace H:=Option.bind_eq_some_iff.mp H
   obtain ⟨t125,A50,H⟩:=H
   replace H:(some t125)=some r:=H
   have A5:=Aside0.mk A50
   clear A50
   obtain rfl:=Option.some.inj H
   go_enter Tryd.func49,Tryd.ntmps49
   go_wp2_with (first|((with_reducible refine gate_dst (N:=3) rfl ?_);refine box_event ?hg (N:=3) ?hd (cs:=#[.int .i64 a1_0,.int .i64 a1_1,.string a1_2]) (t:=30) ?hr ?_;(case hd=>rfl);(case hg=>rfl);(case hr=>first|(go_simp;done)|(go_simp;rfl));intro gb121 hg w6 hbox hb;replace HO0:=Aside0.mk (Kd.R_below (by (with_reducible repeat (first|apply zk1|apply zk2|apply zk3));exact HO0.out) hb);have BK121:=Aside0.mk (hbox);have GW121:=Aside0.mk ((by rw [hg];exact (by first|exact HK.out.1|exact (show Kept w _ (fun k_=>P0_ k_) from by repeat (first|(with_reducible first|exact HK.out|apply Kept.alloc|apply Kept.drewN|apply Kept.drew)|exact HK.out)).1):w.heap.size≤gb121));replace HK:=Aside0.mk (Kept.below (S:=(fun k_=>P0_ k_)) (by repeat (first|(with_reducible first|exact HK.out|apply Kept.alloc|apply Kept.drewN|apply Kept.drew)|exact HK.out)) hb);have GE121:=Aside0.mk ((by rw [hg];exact (below_size (by repeat (first|(with_reducible first|exact HB.out|apply zl1|apply zl2|apply zl3)|exact HB.out))):w0.heap.size≤gb121));replace HB:=Aside0.mk (below_step (by repeat (first|(with_reducible first|exact HB.out|apply zl1|apply zl2|apply zl3)|exact HB.out)) hb);clear hb hbox hg;obtain ⟨hcz7_0,hcz7_1,hcz7_2⟩:=zc3 BK121.out;obtain ⟨hfz7_0,hfz7_1,hfz7_2⟩:=zf3 BK121.out)|((with_reducible refine gate_builtin (b:=.append) (xs:=#[.tmp 5,.tmp 9]) rfl ?_);at_builtin;refine Kd.R_append (Kd.int .u8) (w0:=w0) w0.heap.size rfl (.tmp 5) (.tmp 9) 64 5 (.int .u8 0) 1 rfl Tryd.underlying64 info5 rfl (by decide) (by omega) u9000_ l0 ((a1_0) % 256) [.int .u8 ((a1_0) % 256)] (fun k_=>(P0_ k_ ∨ w.heap.size≤k_)) (fun _=>False) rfl rfl ?aP (fun _ hk=>hk.elim) ?aF ?aO ?aB ?aS ?aL ?_;(case aP=>exact rfl);(case aB=>exact (by repeat (first|(with_reducible first|exact HB.out|apply zl1|apply zl2|apply zl3|refine below_set ?_ GE121.out)|exact HB.out)));(case aF=>exact (fun k_ hk=>(.inr (Nat.le_trans (by first|exact HK.out.1|exact (show Kept w _ (fun k_=>P0_ k_) from by repeat (first|(with_reducible first|exact HK.out|apply Kept.alloc|apply Kept.drewN|apply Kept.drew|refine Kept.setCell ?_ (.inr GW121.out) _)|exact HK.out)).1) hk))));(case aO=>exact (by (with_reducible repeat (first|apply zk1|apply zk2|apply zk3));exact HO0.out));(case aS=>exact (below_size (by repeat (first|(with_reducible first|exact HB.out|apply zl1|apply zl2|apply zl3|refine below_set ?_ GE121.out)|exact HB.out))));(case aL=>have:=LMc3.out;omega);intro v123 w8 ho hb hg hat;rw [← Ny122.out] at ho;have n0_:=Aside0.mk (blk_grown (g:=gb121) (o:=.cells #[.int .i64 a1_0,.int .i64 a1_1,.string a1_2] 30 (0,0)) (by (with_reducible repeat (first|apply zb1|apply zb2|apply zb3));exact BK121.out) hg (Kd.R_ne HO0.out BK121.out (by decide)));have n1_:=Aside0.mk (hb);have n2_:=Aside0.mk (Kept.of_grown (S:=(fun k_=>P0_ k_)) hg (by repeat (first|(with_reducible first|exact HK.out|apply Kept.alloc|apply Kept.drewN|apply Kept.drew|refine Kept.setCell ?_ (.inr GW121.out) _)|exact HK.out)) (fun k_ e_=>(HO0.out.1 k_ e_)));have n3_:=Aside0.mk (ho);clear BK121;clear HB;clear HK;clear HO0;have BK121:=n0_;have HB:=n1_;have HK:=n2_;have HO124:=n3_;clear n0_ n1_ n2_ n3_;clear ho hb hg hat;obtain ⟨hcz9_0,hcz9_1,hcz9_2⟩:=zc3 BK121.out;obtain ⟨hfz9_0,hfz9_1,hfz9_2⟩:=zf3 BK121.out;obtain ⟨Ao10,co10,eo10⟩:=Kd.R_slice HO124.out;subst eo10)|((with_reducible refine gate_callee (f:=35) rfl ?_);refine goesL_ (some 18) rfl rfl Tryd.func35 (by kernel_rfl) rfl #[.slice Ao10 y122.length co10,.int .u64 (IntKind.u64.wrap (a1_1)),.int .i64 8] rfl (by (try simp only [List.map_toArray,List.map_cons,List.map_nil]);first|done|rfl|(simp only [List.length_drop,List.length_take];rfl)|(simp (disch:=omega) only [u64_in];rfl)) ?_;(with_reducible refine (pack_Num.calls k (fun k_=>some k_=(.slice Ao10 y122.length co10:Value).ownBlock) (.slice Ao10 y122.length co10) y122 (IntKind.u64.wrap (a1_1)) 8 t125 w0 _ ?side1 ?side2 A5.out).mono ?_);(case side1=>repeat (first|(with_reducible first|exact HB.out|apply zl1|apply zl2|apply zl3|refine below_set ?_ GE121.out)|exact HB.out));(case side2=>exact Kd.R_tight rfl HO124.out);rintro e w11 ⟨v126,rfl,ho0,hb,hkp⟩;refine ⟨_,rfl,?_⟩;have n0_:=Aside0.mk (blk_kept (by (with_reducible repeat (first|apply zb1|apply zb2|apply zb3));exact BK121.out) hkp (fun hs_=>(fun e_=>(Kd.R_ne HO124.out BK121.out (by decide)) e_) hs_));have n1_:=Aside0.mk (Kd.R_mono (ok':=fun k_=>(P0_ k_ ∨ w.heap.size≤k_)) ho0 (fun k_ hk_=>Or.elim hk_ (fun hs_=>(HO124.out.1 k_ (hs_).symm)) (fun hn_=>(.inr (Nat.le_trans (by first|exact HK.out.1|exact (show Kept w _ (fun k_=>P0_ k_) from by repeat (first|(with_reducible first|exact HK.out|apply Kept.alloc|apply Kept.drewN|apply Kept.drew|refine Kept.setCell ?_ (.inr GW121.out) _)|exact HK.out)).1) hn_)))));have n2_:=Aside0.mk (Kept.then_ (S:=(fun k_=>P0_ k_)) (by repeat (first|(with_reducible first|exact HK.out|apply Kept.alloc|apply Kept.drewN|apply Kept.drew|refine Kept.setCell ?_ (.inr GW121.out) _)|exact HK.out)) hkp (fun k_ hs_=>(fun e_=>(HO124.out.1 k_ e_.symm)) hs_));have n3_:=Aside0.mk (hb);clear BK121;clear HK;clear HB;clear HO124;have BK121:=n0_;have HO127:=n1_;have HK:=n2_;have HB:=n3_;clear n0_ n1_ n2_ n3_;(try clear hb);(try clear hkp);(try clear ho0)))
   go_ret
   exact ⟨_,by first|(with_reducible rfl)|(simp only [isEmpty_bne,Bool.not_not] <;> rfl)|rfl|(simp [*,errW_none,errW_some] <;> rfl),by (with_reducible repeat (first|apply zk1|apply zk2|apply zk3));exact HO127.out,by repeat (first|(with_reducible first|exact HB.out|apply zl1|apply zl2|apply zl3|refine below_set ?_ GE121.out)|exact HB.out),by repeat (first|(with_reducible first|exact HK.out|apply Kept.alloc|apply Kept.drewN|apply Kept.drew|refine Kept.setCell ?_ (.inr GW121.out) _)|exact HK.out)⟩
  ·rw [if_neg c4] at H
   have c4b0:(a1_0 == 1)=false:=beq_eq_false_iff_ne.mpr c4
   have c4b1:(a1_0 != 1)=true:=bne_iff_ne.mpr c4
   replace H:=Option.bind_eq_some_iff.mp H
   obtain ⟨t128,A120,H⟩:=H
   replace H:(some t128)=some r:=H
   have A12:=Aside0.mk A120
   clear A120
   obtain rfl:=Option.some.inj H
   go_enter Tryd.func49,Tryd.ntmps49
   go_wp2_with (first|((with_reducible refine gate_dst (N:=3) rfl ?_);refine box_event ?hg (N:=3) ?hd (cs:=#[.int .i64 a1_0,.int .i64 a1_1,.string a1_2]) (t:=30) ?hr ?_;(case hd=>rfl);(case hg=>rfl);(case hr=>first|(go_simp;done)|(go_simp;rfl));intro gb121 hg w13 hbox hb;replace HO0:=Aside0.mk (Kd.R_below (by (with_reducible repeat (first|apply zk1|apply zk2|apply zk3));exact HO0.out) hb);have BK121:=Aside0.mk (hbox);have GW121:=Aside0.mk ((by rw [hg];exact (by first|exact HK.out.1|exact (show Kept w _ (fun k_=>P0_ k_) from by repeat (first|(with_reducible first|exact HK.out|apply Kept.alloc|apply Kept.drewN|apply Kept.drew)|exact HK.out)).1):w.heap.size≤gb121));replace HK:=Aside0.mk (Kept.below (S:=(fun k_=>P0_ k_)) (by repeat (first|(with_reducible first|exact HK.out|apply Kept.alloc|apply Kept.drewN|apply Kept.drew)|exact HK.out)) hb);have GE121:=Aside0.mk ((by rw [hg];exact (below_size (by repeat (first|(with_reducible first|exact HB.out|apply zl1|apply zl2|apply zl3)|exact HB.out))):w0.heap.size≤gb121));replace HB:=Aside0.mk (below_step (by repeat (first|(with_reducible first|exact HB.out|apply zl1|apply zl2|apply zl3)|exact HB.out)) hb);clear hb hbox hg;obtain ⟨hcz14_0,hcz14_1,hcz14_2⟩:=zc3 BK121.out;obtain ⟨hfz14_0,hfz14_1,hfz14_2⟩:=zf3 BK121.out)|((with_reducible refine gate_builtin (b:=.append) (xs:=#[.tmp 5,.tmp 9]) rfl ?_);at_builtin;refine Kd.R_append (Kd.int .u8) (w0:=w0) w0.heap.size rfl (.tmp 5) (.tmp 9) 64 5 (.int .u8 0) 1 rfl Tryd.underlying64 info5 rfl (by decide) (by omega) u9000_ l0 ((a1_0) % 256) [.int .u8 ((a1_0) % 256)] (fun k_=>(P0_ k_ ∨ w.heap.size≤k_)) (fun _=>False) rfl rfl ?aP (fun _ hk=>hk.elim) ?aF ?aO ?aB ?aS ?aL ?_;(case aP=>exact rfl);(case aB=>exact (by repeat (first|(with_reducible first|exact HB.out|apply zl1|apply zl2|apply zl3|refine below_set ?_ GE121.out)|exact HB.out)));(case aF=>exact (fun k_ hk=>(.inr (Nat.le_trans (by first|exact HK.out.1|exact (show Kept w _ (fun k_=>P0_ k_) from by repeat (first|(with_reducible first|exact HK.out|apply Kept.alloc|apply Kept.drewN|apply Kept.drew|refine Kept.setCell ?_ (.inr GW121.out) _)|exact HK.out)).1) hk))));(case aO=>exact (by (with_reducible repeat (first|apply zk1|apply zk2|apply zk3));exact HO0.out));(case aS=>exact (below_size (by repeat (first|(with_reducible first|exact HB.out|apply zl1|apply zl2|apply zl3|refine below_set ?_ GE121.out)|exact HB.out))));(case aL=>have:=LMc3.out;omega);intro v123 w15 ho hb hg hat;rw [← Ny122.out] at ho;have n0_:=Aside0.mk (blk_grown (g:=gb121) (o:=.cells #[.int .i64 a1_0,.int .i64 a1_1,.string a1_2] 30 (0,0)) (by (with_reducible repeat (first|apply zb1|apply zb2|apply zb3));exact BK121.out) hg (Kd.R_ne HO0.out BK121.out (by decide)));have n1_:=Aside0.mk (hb);have n2_:=Aside0.mk (Kept.of_grown (S:=(fun k_=>P0_ k_)) hg (by repeat (first|(with_reducible first|exact HK.out|apply Kept.alloc|apply Kept.drewN|apply Kept.drew|refine Kept.setCell ?_ (.inr GW121.out) _)|exact HK.out)) (fun k_ e_=>(HO0.out.1 k_ e_)));have n3_:=Aside0.mk (ho);clear BK121;clear HB;clear HK;clear HO0;have BK121:=n0_;have HB:=n1_;have HK:=n2_;have HO124:=n3_;clear n0_ n1_ n2_ n3_;clear ho hb hg hat;obtain ⟨hcz16_0,hcz16_1,hcz16_2⟩:=zc3 BK121.out;obtain ⟨hfz16_0,hfz16_1,hfz16_2⟩:=zf3 BK121.out;obtain ⟨Ao17,co17,eo17⟩:=Kd.R_slice HO124.out;subst eo17)|((with_reducible refine gate_callee (f:=61) rfl ?_);refine goesL_ (some 22) rfl rfl Tryd.func61 (by kernel_rfl) rfl #[.slice Ao17 y122.length co17,.string a1_2] rfl (by (try simp only [List.map_toArray,List.map_cons,List.map_nil]);first|done|rfl|(simp only [List.length_drop,List.length_take];rfl)|(simp (disch:=omega) only [u64_in];rfl)) ?_;(with_reducible refine (pack_Str.calls (fun k_=>some k_=(.slice Ao17 y122.length co17:Value).ownBlock) (.slice Ao17 y122.length co17) y122 a1_2 t128 w0 _ ?side1 ?side2 A12.out).mono ?_);(case side1=>repeat (first|(with_reducible first|exact HB.out|apply zl1|apply zl2|apply zl3|refine below_set ?_ GE121.out)|exact HB.out));(case side2=>exact Kd.R_tight rfl HO124.out);rintro e w18 ⟨v129,rfl,ho0,hb,hkp⟩;refine ⟨_,rfl,?_⟩;have n0_:=Aside0.mk (blk_kept (by (with_reducible repeat (first|apply zb1|apply zb2|apply zb3));exact BK121.out) hkp (fun hs_=>(fun e_=>(Kd.R_ne HO124.out BK121.out (by decide)) e_) hs_));have n1_:=Aside0.mk (Kd.R_mono (ok':=fun k_=>(P0_ k_ ∨ w.heap.size≤k_)) ho0 (fun k_ hk_=>Or.elim hk_ (fun hs_=>(HO124.out.1 k_ (hs_).symm)) (fun hn_=>(.inr (Nat.le_trans (by first|exact HK.out.1|exact (show Kept w _ (fun k_=>P0_ k_) from by repeat (first|(with_reducible first|exact HK.out|apply Kept.alloc|apply Kept.drewN|apply Kept.drew|refine Kept.setCell ?_ (.inr GW121.out) _)|exact HK.out)).1) hn_)))));have n2_:=Aside0.mk (Kept.then_ (S:=(fun k_=>P0_ k_)) (by repeat (first|(with_reducible first|exact HK.out|apply Kept.alloc|apply Kept.drewN|apply Kept.drew|refine Kept.setCell ?_ (.inr GW121.out) _)|exact HK.out)) hkp (fun k_ hs_=>(fun e_=>(HO124.out.1 k_ e_.symm)) hs_));have n3_:=Aside0.mk (hb);clear BK121;clear HK;clear HB;clear HO124;have BK121:=n0_;have HO130:=n1_;have HK:=n2_;have HB:=n3_;clear n0_ n1_ n2_ n3_;(try clear hb);(try clear hkp);(try clear ho0)))
   go_ret
   exact ⟨_,by first|(with_reducible rfl)|(simp only [isEmpty_bne,Bool.not_not] <;> rfl)|rfl|(simp [*,errW_none,errW_some] <;> rfl),by (with_reducible repeat (first|apply zk1|apply zk2|apply zk3));exact HO130.out,by repeat (first|(with_reducible first|exact HB.out|apply zl1|apply zl2|apply zl3|refine below_set ?_ GE121.out)|exact HB.out),by repeat (first|(with_reducible first|exact HK.out|apply Kept.alloc|apply Kept.drewN|apply Kept.drew|refine Kept.setCell ?_ (.inr GW121.out) _)|exact HK.out)⟩
 ·rw [if_neg c3] at H
  exact absurd H (by simp)

/-! ### effects_Value: function 33 -/
def effects_Value.f (k:Nat) (a0_0:Int) (a0_1:Int) (a0_2:ByteArray):Option (ByteArray × Int):=(effects_odd.f a0_0 a0_1 a0_2).bind fun t132=>(if t132=true then (some ((⟨#[]⟩:ByteArray),6)) else ((effects_put.f k ([]:List Int) a0_0 a0_1 a0_2).bind fun t133=>(some (strOfNums t133,0))))
theorem effects_Value.mono:∀ a0 a1 a2 k,LeO (effects_Value.f k a0 a1 a2) (effects_Value.f (k + 1) a0 a1 a2):=by
 intro a0 a1 a2 k
 unfold effects_Value.f
 repeat' first
   | (with_reducible exact effects_put.mono _ _ _ _ _)
   | (with_reducible exact LeO.refl _)
   | (with_reducible exact LeO.none _)
   | (with_reducible refine LeO.ite ?_ ?_)
   | (with_reducible refine LeO.bind ?_ (fun _=>?_))
   | exact effects_put.mono _ _ _ _ _
   | exact LeO.none _
   | refine LeO.ite ?_ ?_
   | refine LeO.bind ?_ (fun _=>?_)
set_option maxHeartbeats 8000000 in
set_option maxRecDepth 100000 in
theorem effects_Value.calls (k:Nat) (a0_0:Int) (a0_1:Int) (a0_2:ByteArray) (r1:ByteArray) (r2:Int) (w:World) (h:effects_Value.f k a0_0 a0_1 a0_2=some (r1,r2)) :
  Calls Tryd.prog 33 #[.agg #[.int .i64 a0_0,.int .i64 a0_1,.string a0_2]] w fun e w'=>e=.returned (.tuple #[.string r1,.int .i64 r2])∧Below w.heap.size w w':=by
 have hu30:=Tryd.underlying30
 have HB:=Aside0.mk (Below.refl w.heap.size w)
 have H:((effects_odd.f a0_0 a0_1 a0_2).bind fun t132=>(if t132=true then (some ((⟨#[]⟩:ByteArray),6)) else ((effects_put.f k ([]:List Int) a0_0 a0_1 a0_2).bind fun t133=>(some (strOfNums t133,0)))))=some (r1,r2):=h
 clear h
 replace H:=Option.bind_eq_some_iff.mp H
 obtain ⟨t132,A20,H⟩:=H
 replace H:(if t132=true then (some ((⟨#[]⟩:ByteArray),6)) else ((effects_put.f k ([]:List Int) a0_0 a0_1 a0_2).bind fun t133=>(some (strOfNums t133,0))))=some (r1,r2):=H
 have A2:=Aside0.mk A20
 clear A20
 by_cases c3:t132=true
 ·subst c3
  have H1:(some ((⟨#[]⟩:ByteArray),6))=some (r1,r2):=by rw [if_pos rfl] at H;exact H
  clear H
  have H:=H1
  clear H1
  simp only [Option.some.injEq,Prod.mk.injEq] at H
  obtain ⟨rfl,rfl⟩:=H
  go_enter Tryd.func33,Tryd.ntmps33
  go_wp2_with (first|((with_reducible refine gate_dst (N:=1) rfl ?_);refine box_event ?hg (N:=1) ?hd (cs:=#[.int .i64 a0_0,.int .i64 a0_1,.string a0_2]) (t:=30) ?hr ?_;(case hd=>rfl);(case hg=>rfl);(case hr=>first|(go_simp;done)|(go_simp;rfl));intro gb131 hg w4 hbox hb;have BK131:=Aside0.mk (hbox);have GW131:=Aside0.mk ((by rw [hg];exact (below_size (by repeat (first|(with_reducible first|exact HB.out|apply zl1|apply zl2|apply zl3)|exact HB.out))):w.heap.size≤gb131));have GE131:=Aside0.mk ((by rw [hg];exact (below_size (by repeat (first|(with_reducible first|exact HB.out|apply zl1|apply zl2|apply zl3)|exact HB.out))):w.heap.size≤gb131));replace HB:=Aside0.mk (below_step (by repeat (first|(with_reducible first|exact HB.out|apply zl1|apply zl2|apply zl3)|exact HB.out)) hb);clear hb hbox hg;obtain ⟨hcz5_0,hcz5_1,hcz5_2⟩:=zc3 BK131.out;obtain ⟨hfz5_0,hfz5_1,hfz5_2⟩:=zf3 BK131.out)|((with_reducible refine gate_callee (f:=48) rfl ?_);refine goesL_ (some 5) rfl rfl Tryd.func48 (by kernel_rfl) rfl #[.agg #[.int .i64 a0_0,.int .i64 a0_1,.string a0_2]] rfl (by (try simp only [List.map_toArray,List.map_cons,List.map_nil]);first|done|rfl|(simp only [List.length_drop,List.length_take];rfl)|(simp (disch:=omega) only [u64_in];rfl)) ?_;(with_reducible refine (effects_odd.calls a0_0 a0_1 a0_2 true _ A2.out).mono ?_);rintro e w6 ⟨rfl,hb⟩;refine ⟨_,rfl,?_⟩;replace BK131:=Aside0.mk (blk_below (g:=gb131) (o:=.cells #[.int .i64 a0_0,.int .i64 a0_1,.string a0_2] 30 (0,0)) (by (with_reducible repeat (first|apply zb1|apply zb2|apply zb3));exact BK131.out) hb);replace HB:=Aside0.mk (below_step (by repeat (first|(with_reducible first|exact HB.out|apply zl1|apply zl2|apply zl3|refine below_set ?_ GE131.out)|exact HB.out)) hb);(try clear hb)))
  go_ret2
  exact ⟨by first|(with_reducible rfl)|(simp only [isEmpty_bne,Bool.not_not] <;> rfl)|rfl|(simp [*,errW_none,errW_some] <;> rfl),by repeat (first|(with_reducible first|exact HB.out|apply zl1|apply zl2|apply zl3|refine below_set ?_ GE131.out)|exact HB.out)⟩
 ·replace c3:=Bool.eq_false_iff.mpr c3
  subst c3
  have H1:((effects_put.f k ([]:List Int) a0_0 a0_1 a0_2).bind fun t133=>(some (strOfNums t133,0)))=some (r1,r2):=by rw [if_neg (show ¬ (false=true) by decide)] at H;exact H
  clear H
  have H:=H1
  clear H1
  replace H:=Option.bind_eq_some_iff.mp H
  obtain ⟨t133,A70,H⟩:=H
  replace H:(some (strOfNums t133,0))=some (r1,r2):=H
  have A7:=Aside0.mk A70
  clear A70
  simp only [Option.some.injEq,Prod.mk.injEq] at H
  obtain ⟨rfl,rfl⟩:=H
  go_enter Tryd.func33,Tryd.ntmps33
  go_wp2_with (first|((with_reducible refine gate_dst (N:=1) rfl ?_);refine box_event ?hg (N:=1) ?hd (cs:=#[.int .i64 a0_0,.int .i64 a0_1,.string a0_2]) (t:=30) ?hr ?_;(case hd=>rfl);(case hg=>rfl);(case hr=>first|(go_simp;done)|(go_simp;rfl));intro gb131 hg w8 hbox hb;have BK131:=Aside0.mk (hbox);have GW131:=Aside0.mk ((by rw [hg];exact (below_size (by repeat (first|(with_reducible first|exact HB.out|apply zl1|apply zl2|apply zl3)|exact HB.out))):w.heap.size≤gb131));have GE131:=Aside0.mk ((by rw [hg];exact (below_size (by repeat (first|(with_reducible first|exact HB.out|apply zl1|apply zl2|apply zl3)|exact HB.out))):w.heap.size≤gb131));replace HB:=Aside0.mk (below_step (by repeat (first|(with_reducible first|exact HB.out|apply zl1|apply zl2|apply zl3)|exact HB.out)) hb);clear hb hbox hg;obtain ⟨hcz9_0,hcz9_1,hcz9_2⟩:=zc3 BK131.out;obtain ⟨hfz9_0,hfz9_1,hfz9_2⟩:=zf3 BK131.out)|((with_reducible refine gate_callee (f:=48) rfl ?_);refine goesL_ (some 5) rfl rfl Tryd.func48 (by kernel_rfl) rfl #[.agg #[.int .i64 a0_0,.int .i64 a0_1,.string a0_2]] rfl (by (try simp only [List.map_toArray,List.map_cons,List.map_nil]);first|done|rfl|(simp only [List.length_drop,List.length_take];rfl)|(simp (disch:=omega) only [u64_in];rfl)) ?_;(with_reducible refine (effects_odd.calls a0_0 a0_1 a0_2 false _ A2.out).mono ?_);rintro e w10 ⟨rfl,hb⟩;refine ⟨_,rfl,?_⟩;replace BK131:=Aside0.mk (blk_below (g:=gb131) (o:=.cells #[.int .i64 a0_0,.int .i64 a0_1,.string a0_2] 30 (0,0)) (by (with_reducible repeat (first|apply zb1|apply zb2|apply zb3));exact BK131.out) hb);replace HB:=Aside0.mk (below_step (by repeat (first|(with_reducible first|exact HB.out|apply zl1|apply zl2|apply zl3|refine below_set ?_ GE131.out)|exact HB.out)) hb);(try clear hb);obtain ⟨hcz11_0,hcz11_1,hcz11_2⟩:=zc3 BK131.out;obtain ⟨hfz11_0,hfz11_1,hfz11_2⟩:=zf3 BK131.out)|((with_reducible refine gate_callee (f:=49) rfl ?_);refine goesL_ (some 7) rfl rfl Tryd.func49 (by kernel_rfl) rfl #[.slice none 0 0,.agg #[.int .i64 a0_0,.int .i64 a0_1,.string a0_2]] rfl (by (try simp only [List.map_toArray,List.map_cons,List.map_nil]);first|done|rfl|(simp only [List.length_drop,List.length_take];rfl)|(simp (disch:=omega) only [u64_in];rfl)) ?_;(refine (effects_put.calls k (fun k_=>some k_=(.slice none 0 0:Value).ownBlock) (.slice none 0 0) ([]:List Int) a0_0 a0_1 a0_2 t133 w _ ?side1 ?side2 A7.out).mono ?_);(case side1=>repeat (first|(with_reducible first|exact HB.out|apply zl1|apply zl2|apply zl3|refine below_set ?_ GE131.out)|exact HB.out));(case side2=>exact Kd.R_nil _ _ _ _ _);rintro e w12 ⟨v134,rfl,ho0,hb,hkp⟩;refine ⟨_,rfl,?_⟩;replace BK131:=Aside0.mk (blk_kept (by (with_reducible repeat (first|apply zb1|apply zb2|apply zb3));exact BK131.out) hkp (fun hs_=>(fun e_=>by simp [Value.ownBlock] at e_) hs_));have HO135:=Aside0.mk (Kd.R_mono (ok':=fun k_=>True) ho0 (fun k_ hk_=>trivial));replace HB:=Aside0.mk (hb);(try clear hb);(try clear hkp);(try clear ho0);have hcv13:=own_string (P:=Tryd.prog) Tryd.underlying64 Tryd.underlying5 Tryd.underlying9 (Kd.own_of_R HO135.out)))
  go_ret2
  exact ⟨by first|(with_reducible rfl)|(simp only [isEmpty_bne,Bool.not_not] <;> rfl)|rfl|(simp [*,errW_none,errW_some] <;> rfl),by repeat (first|(with_reducible first|exact HB.out|apply zl1|apply zl2|apply zl3|refine below_set ?_ GE131.out)|exact HB.out)⟩

/-! ### outbox_within: function 34 -/
def outbox_within.f (a0:Int) (a1:Int) (a2:Int):Option (Bool):=if a0 ≥ a1 then (some (decide (a0≤a2))) else (some false)
set_option maxHeartbeats 8000000 in
set_option maxRecDepth 100000 in
theorem outbox_within.calls (a0:Int) (a1:Int) (a2:Int) (r:Bool) (w:World) (h:outbox_within.f a0 a1 a2=some r) :
  Calls Tryd.prog 34 #[.int .i64 a0,.int .i64 a1,.int .i64 a2] w fun e w'=>e=.returned (.bool r)∧Drawn0 w w':=by
 have H:(if a0 ≥ a1 then (some (decide (a0≤a2))) else (some false))=some r:=h
 clear h
 by_cases c4:a0 ≥ a1
 ·rw [if_pos c4] at H
  have c4b0:decide (a1≤a0)=true:=decide_eq_true c4
  clear c4
  obtain rfl:=Option.some.inj H
  go_enter Tryd.func34,Tryd.ntmps34
  go_wp2
  go_ret
  exact ⟨by first|(with_reducible rfl)|(simp;done)|(simp [*];done)|rfl|(simp only [not_isEmpty_bne]),by repeat (first|exact Drawn0.refl _|apply Drawn0.step)⟩
 ·rw [if_neg c4] at H
  have c4b0:decide (a1≤a0)=false:=decide_eq_false c4
  clear c4
  obtain rfl:=Option.some.inj H
  go_enter Tryd.func34,Tryd.ntmps34
  go_wp2
  go_ret
  exact ⟨by first|(with_reducible rfl)|(simp;done)|(simp [*];done)|rfl|(simp only [not_isEmpty_bne]),by repeat (first|exact Drawn0.refl _|apply Drawn0.step)⟩

end Go.Proofs.YtnlfppfdfdopiaaDoor.PAll
