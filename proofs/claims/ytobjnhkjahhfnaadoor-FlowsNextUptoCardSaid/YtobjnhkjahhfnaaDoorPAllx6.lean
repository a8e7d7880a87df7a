/- Printed walks of the functions that the laws reach: each function, what it computes, and that it does. No conditions. -/
import Derived.Test.YtobjnhkjahhfnaaDoorPAllx0
import Derived.Test.YtobjnhkjahhfnaaDoorPAllx3
import Derived.Test.YtobjnhkjahhfnaaDoorPAllx5
namespace Go.Proofs.YtobjnhkjahhfnaaDoor.PAll
open Go.RowKit Go.Proofs.YtobjnhkjahhfnaaDoor.XW Go.Proofs.YtobjnhkjahhfnaaDoor.XLib Go.Proofs.YtobjnhkjahhfnaaDoorW.PrintWords Go.Proofs.YtobjnhkjahhfnaaDoorW.PrintLast Go.Proofs.YtobjnhkjahhfnaaDoorW.PrintMore
attribute [local go_sem] max2_int min2_int max_two min_two max_three min_three max_four min_four   -- for this text's walks alone
set_option linter.unusedVariables false
set_option linter.unusedSimpArgs false

/-! ### pack_Str: function 77 -/
def pack_Str.f (l0:List Int) (a1:ByteArray):Option (List Int):=if 0≤(mn (a1.size:Int) 255) then (if (mn (a1.size:Int) 255)≤(a1.size:Int) then (if l0.length < 140737488355328 then ((some (l0 ++ [(((a1.extract 0 ((mn (a1.size:Int) 255):Int).toNat).size:Int)) % 256]:List Int)).bind fun y131=>(if y131.length + (a1.extract 0 ((mn (a1.size:Int) 255):Int).toNat).size < 140737488355328 then (some (y131 ++ bytesOf (a1.extract 0 ((mn (a1.size:Int) 255):Int).toNat))) else (none))) else (none)) else (none)) else (none)
set_option maxHeartbeats 8000000 in
set_option maxRecDepth 100000 in
theorem pack_Str.calls (P0_:Nat→Prop) (u9000_:Value) (l0:List Int) (a1:ByteArray) (r:List Int) (w0 w:World) (hB:Below w0.heap.size w0 w) (ho0:Kd.R (Kd.int .u8) 5 w w0.heap.size P0_ u9000_ l0) (h:pack_Str.f l0 a1=some r) :
  Calls Tryd.prog 77 #[u9000_,.string a1] w fun e w'=>∃ v0_:Value,e=.returned (v0_)∧Kd.R (Kd.int .u8) 5 w' w0.heap.size (fun k_=>(P0_ k_ ∨ w.heap.size≤k_)) v0_ r∧Below w0.heap.size w0 w'∧Kept w w' (fun k_=>P0_ k_):=by
 have HO0:=Aside0.mk (show Kd.R (Kd.int .u8) 5 w w0.heap.size (fun k_=>(P0_ k_ ∨ w.heap.size≤k_)) u9000_ l0 from Kd.R_mono ho0 (fun k_ hk=>(.inl hk)))
 have HK:=Aside0.mk (Kept.refl w (fun k_=>P0_ k_))
 have HW0:=Aside0.mk hB.size
 have HB:=Aside0.mk hB
 clear hB
 have H:(if 0≤(mn (a1.size:Int) 255) then (if (mn (a1.size:Int) 255)≤(a1.size:Int) then (if l0.length < 140737488355328 then ((some (l0 ++ [(((a1.extract 0 ((mn (a1.size:Int) 255):Int).toNat).size:Int)) % 256]:List Int)).bind fun y131=>(if y131.length + (a1.extract 0 ((mn (a1.size:Int) 255):Int).toNat).size < 140737488355328 then (some (y131 ++ bytesOf (a1.extract 0 ((mn (a1.size:Int) 255):Int).toNat))) else (none))) else (none)) else (none)) else (none))=some r:=h
 clear h
 obtain ⟨ji3,hji3⟩:∃ j_:Int,(mn (a1.size:Int) 255)=j_:=⟨_,rfl⟩
 replace H:(if 0≤(ji3) then (if (ji3)≤(a1.size:Int) then (if l0.length < 140737488355328 then ((some (l0 ++ [(((a1.extract 0 ((ji3):Int).toNat).size:Int)) % 256]:List Int)).bind fun y131=>(if y131.length + (a1.extract 0 ((ji3):Int).toNat).size < 140737488355328 then (some (y131 ++ bytesOf (a1.extract 0 ((ji3):Int).toNat))) else (none))) else (none)) else (none)) else (none))=some r:=by first|(rw [hji3] at H;exact H)|(simp only [hji3] at H ⊢;exact H)
 (try (have hji3h:ji3≤255:=by (rw [← hji3];unfold mn;(repeat' split) <;> omega)))
 (try (have hji3g:ji3≤64:=by omega))
 (try (have hji3l:0≤ji3:=by (rw [← hji3];unfold mn;(repeat' split) <;> omega)))
 (try (have hji3m:0≤ji3:=by omega))
 have hji3_:(if 255 < (a1.size:Int) then 255 else (a1.size:Int))=ji3:=hji3
 by_cases c4:0≤(ji3)
 ·rw [if_pos c4] at H
  have c4b0:=eq_true c4
  have c4b1:decide (0≤(ji3))=true:=decide_eq_true c4
  clear c4
  by_cases c5:(ji3)≤(a1.size:Int)
  ·rw [if_pos c5] at H
   have c5b0:=eq_true c5
   have c5b1:decide ((ji3)≤(a1.size:Int))=true:=decide_eq_true c5
   clear c5
   by_cases c6:l0.length < 140737488355328
   ·rw [if_pos c6] at H
    have LMc6:=Aside0.mk c6
    clear c6
    obtain ⟨y131,hy131⟩:∃ y_:List Int,y_=(l0 ++ [(((a1.extract 0 ((ji3):Int).toNat).size:Int)) % 256]):=⟨_,rfl⟩
    replace H:(if y131.length + (a1.extract 0 ((ji3):Int).toNat).size < 140737488355328 then (some (y131 ++ bytesOf (a1.extract 0 ((ji3):Int).toNat))) else (none))=some r:=by first|(rw [hy131];with_reducible exact H)|(have H2_:=(Option.bind_some _ _).symm.trans H;rw [hy131];with_reducible exact H2_)|(have H2_:=(Option.bind_some _ _).symm.trans H;with_reducible exact H2_)|with_reducible exact H|(rw [hy131];exact H)|exact H
    have Ny131:=Aside0.mk hy131
    clear hy131
    by_cases c7:y131.length + (a1.extract 0 ((ji3):Int).toNat).size < 140737488355328
    ·rw [if_pos c7] at H
     have LMc7:=Aside0.mk c7
     clear c7
     obtain ⟨y134,hy134⟩:∃ y_:List Int,y_=(y131 ++ bytesOf (a1.extract 0 ((ji3):Int).toNat)):=⟨_,rfl⟩
     replace H:(some y134)=some r:=by first|(rw [hy134];with_reducible exact H)|(have H2_:=(Option.bind_some _ _).symm.trans H;rw [hy134];with_reducible exact H2_)|(have H2_:=(Option.bind_some _ _).symm.trans H;with_reducible exact H2_)|with_reducible exact H|(rw [hy134];exact H)|exact H
     have Ny134:=Aside0.mk hy134
     clear hy134
     obtain rfl:=Option.some.inj H
     have hmx_:(((a1.extract 0 (ji3).toNat).size:Int)) % 256=max ji3 0:=by
      have h1_:0≤ji3:=by first|assumption|omega
      have h2_:ji3≤(a1.size:Int):=by first|assumption|(apply of_decide_eq_true;assumption)|omega
      rw [ByteArray.size_extract];omega
     go_enter Tryd.func77,Tryd.ntmps77
     go_wp2_with (first|((with_reducible refine gate_builtin (b:=.append) (xs:=#[.tmp 10,.tmp 14]) rfl ?_);at_builtin;refine Kd.R_append (Kd.int .u8) (w0:=w0) w0.heap.size rfl (.tmp 10) (.tmp 14) 64 5 (.int .u8 0) 1 rfl Tryd.underlying64 info5 rfl (by decide) (by omega) u9000_ l0 (max ji3 0) [.int .u8 (max ji3 0)] (fun k_=>(P0_ k_ ∨ w.heap.size≤k_)) (fun _=>False) rfl rfl ?aP (fun _ hk=>hk.elim) ?aF ?aO ?aB ?aS ?aL ?_;(case aP=>exact rfl);(case aB=>exact (by repeat (first|(with_reducible first|exact HB.out|apply zl1|apply zl2|apply zl3)|exact HB.out)));(case aF=>exact (fun k_ hk=>(.inr (Nat.le_trans (by first|exact HK.out.1|exact (show Kept w _ (fun k_=>P0_ k_) from by repeat (first|(with_reducible first|exact HK.out|apply Kept.alloc|apply Kept.drewN|apply Kept.drew)|exact HK.out)).1) hk))));(case aO=>exact (by (with_reducible repeat (first|apply zk1|apply zk2|apply zk3));exact HO0.out));(case aS=>exact (below_size (by repeat (first|(with_reducible first|exact HB.out|apply zl1|apply zl2|apply zl3)|exact HB.out))));(case aL=>have:=LMc6.out;omega);intro v132 w8 ho hb hg hat;rw [← hmx_,← Ny131.out] at ho;have n0_:=Aside0.mk (hb);have n1_:=Aside0.mk (Kept.of_grown (S:=(fun k_=>P0_ k_)) hg (by repeat (first|(with_reducible first|exact HK.out|apply Kept.alloc|apply Kept.drewN|apply Kept.drew)|exact HK.out)) (fun k_ e_=>(HO0.out.1 k_ e_)));have n2_:=Aside0.mk (ho);clear HB;clear HK;clear HO0;have HB:=n0_;have HK:=n1_;have HO133:=n2_;clear n0_ n1_ n2_;clear ho hb hg hat)|(at_builtin;refine R_strP (w0:=w0) w0.heap.size rfl (.tmp 15) _ 64 9 5 rfl Tryd.underlying64 Tryd.underlying9 info5 v132 y131 (a1.extract 0 ((ji3):Int).toNat) (fun k_=>(P0_ k_ ∨ w.heap.size≤k_)) rfl rfl ?aF ?aO ?aB ?aS ?aL ?_;(case aB=>exact (by repeat (first|(with_reducible first|exact HB.out|apply zl1|apply zl2|apply zl3)|exact HB.out)));(case aF=>exact (fun k_ hk=>(.inr (Nat.le_trans (by first|exact HK.out.1|exact (show Kept w _ (fun k_=>P0_ k_) from by repeat (first|(with_reducible first|exact HK.out|apply Kept.alloc|apply Kept.drewN|apply Kept.drew)|exact HK.out)).1) hk))));(case aO=>exact (by (with_reducible repeat (first|apply zk1|apply zk2|apply zk3));exact HO133.out));(case aS=>exact (below_size (by repeat (first|(with_reducible first|exact HB.out|apply zl1|apply zl2|apply zl3)|exact HB.out))));(case aL=>have:=LMc7.out;omega);intro v135 w9 ho hb hg hat;rw [← Ny134.out] at ho;have n0_:=Aside0.mk (hb);have n1_:=Aside0.mk (Kept.of_grown (S:=(fun k_=>P0_ k_)) hg (by repeat (first|(with_reducible first|exact HK.out|apply Kept.alloc|apply Kept.drewN|apply Kept.drew)|exact HK.out)) (fun k_ e_=>(HO133.out.1 k_ e_)));have n2_:=Aside0.mk (ho);clear HB;clear HK;clear HO133;have HB:=n0_;have HK:=n1_;have HO136:=n2_;clear n0_ n1_ n2_;clear ho hb hg hat))
     go_ret
     exact ⟨_,by first|(with_reducible rfl)|(simp only [isEmpty_bne,Bool.not_not] <;> with_reducible rfl)|(simp [errW_none,errW_some] <;> with_reducible rfl)|(simp only [isEmpty_bne,Bool.not_not] <;> rfl)|rfl|(simp [errW_none,errW_some] <;> rfl)|(simp only [← hji3];first|rfl|(simp [errW_none,errW_some] <;> rfl))|(simp [*,errW_none,errW_some] <;> rfl),by (with_reducible repeat (first|apply zk1|apply zk2|apply zk3));exact HO136.out,by repeat (first|(with_reducible first|exact HB.out|apply zl1|apply zl2|apply zl3)|exact HB.out),by repeat (first|(with_reducible first|exact HK.out|apply Kept.alloc|apply Kept.drewN|apply Kept.drew)|exact HK.out)⟩
    ·rw [if_neg c7] at H
     exact absurd H (by simp)
   ·rw [if_neg c6] at H
    exact absurd H (by simp)
  ·rw [if_neg c5] at H
   exact absurd H (by simp)
 ·rw [if_neg c4] at H
  exact absurd H (by simp)

/-! ### effects_put: function 70 -/
def effects_put.f (k:Nat) (l0:List Int) (a1_0:Int) (a1_1:Int) (a1_2:ByteArray):Option (List Int):=if l0.length < 140737488355328 then ((some (l0 ++ [(a1_0) % 256]:List Int)).bind fun y138=>(if a1_0=1 then ((pack_Num.f k y138 (IntKind.u64.wrap (a1_1)) 8).bind fun t141=>(some t141)) else ((pack_Str.f y138 a1_2).bind fun t144=>(some t144)))) else (none)
theorem effects_put.mono:∀ a0 a1 a2 a3 k,LeO (effects_put.f k a0 a1 a2 a3) (effects_put.f (k + 1) a0 a1 a2 a3):=by
 intro a0 a1 a2 a3 k
 unfold effects_put.f
 repeat' first
   | (with_reducible exact pack_Num.mono _ _ _ _)
   | (with_reducible exact LeO.refl _)
   | (with_reducible exact LeO.none _)
   | (with_reducible refine LeO.ite ?_ ?_)
   | (with_reducible refine LeO.bind ?_ (fun _=>?_))
   | exact pack_Num.mono _ _ _ _
   | exact LeO.none _
   | refine LeO.ite ?_ ?_
   | refine LeO.bind ?_ (fun _=>?_)
set_option maxHeartbeats 8000000 in
set_option maxRecDepth 100000 in
theorem effects_put.calls (k:Nat) (P0_:Nat→Prop) (u9000_:Value) (l0:List Int) (a1_0:Int) (a1_1:Int) (a1_2:ByteArray) (r:List Int) (w0 w:World) (hB:Below w0.heap.size w0 w) (ho0:Kd.R (Kd.int .u8) 5 w w0.heap.size P0_ u9000_ l0) (h:effects_put.f k l0 a1_0 a1_1 a1_2=some r) :
  Calls Tryd.prog 70 #[u9000_,.agg #[.int .i64 a1_0,.int .i64 a1_1,.string a1_2]] w fun e w'=>∃ v0_:Value,e=.returned (v0_)∧Kd.R (Kd.int .u8) 5 w' w0.heap.size (fun k_=>(P0_ k_ ∨ w.heap.size≤k_)) v0_ r∧Below w0.heap.size w0 w'∧Kept w w' (fun k_=>P0_ k_):=by
 have hu24:=Tryd.underlying24
 have HO0:=Aside0.mk (show Kd.R (Kd.int .u8) 5 w w0.heap.size (fun k_=>(P0_ k_ ∨ w.heap.size≤k_)) u9000_ l0 from Kd.R_mono ho0 (fun k_ hk=>(.inl hk)))
 have HK:=Aside0.mk (Kept.refl w (fun k_=>P0_ k_))
 have HW0:=Aside0.mk hB.size
 have HB:=Aside0.mk hB
 clear hB
 have H:(if l0.length < 140737488355328 then ((some (l0 ++ [(a1_0) % 256]:List Int)).bind fun y138=>(if a1_0=1 then ((pack_Num.f k y138 (IntKind.u64.wrap (a1_1)) 8).bind fun t141=>(some t141)) else ((pack_Str.f y138 a1_2).bind fun t144=>(some t144)))) else (none))=some r:=h
 clear h
 by_cases c3:l0.length < 140737488355328
 ·rw [if_pos c3] at H
  have LMc3:=Aside0.mk c3
  clear c3
  obtain ⟨y138,hy138⟩:∃ y_:List Int,y_=(l0 ++ [(a1_0) % 256]):=⟨_,rfl⟩
  replace H:(if a1_0=1 then ((pack_Num.f k y138 (IntKind.u64.wrap (a1_1)) 8).bind fun t141=>(some t141)) else ((pack_Str.f y138 a1_2).bind fun t144=>(some t144)))=some r:=by first|(rw [hy138];with_reducible exact H)|(have H2_:=(Option.bind_some _ _).symm.trans H;rw [hy138];with_reducible exact H2_)|(have H2_:=(Option.bind_some _ _).symm.trans H;with_reducible exact H2_)|with_reducible exact H|(rw [hy138];exact H)|exact H
  have Ny138:=Aside0.mk hy138
  clear hy138
  by_cases c4:a1_0=1
  ·rw [if_pos c4] at H
   have c4b0:(a1_0 == 1)=true:=beq_iff_eq.mpr c4
   have c4b1:(a1_0 != 1)=false:=bne_eq_false_iff_eq.mpr c4
   clear c4
   replace H:=Option.bind_eq_some_iff.mp H
   obtain ⟨t141,A50,H⟩:=H
   replace H:(some t141)=some r:=H
   have A5:=Aside0.mk A50
   clear A50
   obtain rfl:=Option.some.inj H
   go_enter Tryd.func70,Tryd.ntmps70
   go_wp2_with (first|((with_reducible refine gate_dst (N:=3) rfl ?_);refine box_event ?hg (N:=3) ?hd (cs:=#[.int .i64 a1_0,.int .i64 a1_1,.string a1_2]) (t:=24) ?hr ?_;(case hd=>rfl);(case hg=>rfl);(case hr=>first|(go_simp;done)|(go_simp;rfl));intro gb137 hg w6 hbox hb;replace HO0:=Aside0.mk (Kd.R_below (by (with_reducible repeat (first|apply zk1|apply zk2|apply zk3));exact HO0.out) hb);have BK137:=Aside0.mk (hbox);have GW137:=Aside0.mk ((by rw [hg];exact (by first|exact HK.out.1|exact (show Kept w _ (fun k_=>P0_ k_) from by repeat (first|(with_reducible first|exact HK.out|apply Kept.alloc|apply Kept.drewN|apply Kept.drew)|exact HK.out)).1):w.heap.size≤gb137));replace HK:=Aside0.mk (Kept.below (S:=(fun k_=>P0_ k_)) (by repeat (first|(with_reducible first|exact HK.out|apply Kept.alloc|apply Kept.drewN|apply Kept.drew)|exact HK.out)) hb);have GE137:=Aside0.mk ((by rw [hg];exact (below_size (by repeat (first|(with_reducible first|exact HB.out|apply zl1|apply zl2|apply zl3)|exact HB.out))):w0.heap.size≤gb137));replace HB:=Aside0.mk (below_step (by repeat (first|(with_reducible first|exact HB.out|apply zl1|apply zl2|apply zl3)|exact HB.out)) hb);clear hb hbox hg;obtain ⟨hcz7_0,hcz7_1,hcz7_2⟩:=zc3 BK137.out;obtain ⟨hfz7_0,hfz7_1,hfz7_2⟩:=zf3 BK137.out)|((with_reducible refine gate_builtin (b:=.append) (xs:=#[.tmp 5,.tmp 9]) rfl ?_);at_builtin;refine Kd.R_append (Kd.int .u8) (w0:=w0) w0.heap.size rfl (.tmp 5) (.tmp 9) 64 5 (.int .u8 0) 1 rfl Tryd.underlying64 info5 rfl (by decide) (by omega) u9000_ l0 ((a1_0) % 256) [.int .u8 ((a1_0) % 256)] (fun k_=>(P0_ k_ ∨ w.heap.size≤k_)) (fun _=>False) rfl rfl ?aP (fun _ hk=>hk.elim) ?aF ?aO ?aB ?aS ?aL ?_;(case aP=>exact rfl);(case aB=>exact (by repeat (first|(with_reducible first|exact HB.out|apply zl1|apply zl2|apply zl3|refine below_set ?_ GE137.out)|exact HB.out)));(case aF=>exact (fun k_ hk=>(.inr (Nat.le_trans (by first|exact HK.out.1|exact (show Kept w _ (fun k_=>P0_ k_) from by repeat (first|(with_reducible first|exact HK.out|apply Kept.alloc|apply Kept.drewN|apply Kept.drew|refine Kept.setCell ?_ (.inr GW137.out) _)|exact HK.out)).1) hk))));(case aO=>exact (by (with_reducible repeat (first|apply zk1|apply zk2|apply zk3));exact HO0.out));(case aS=>exact (below_size (by repeat (first|(with_reducible first|exact HB.out|apply zl1|apply zl2|apply zl3|refine below_set ?_ GE137.out)|exact HB.out))));(case aL=>have:=LMc3.out;omega);intro v139 w8 ho hb hg hat;rw [← Ny138.out] at ho;have n0_:=Aside0.mk (blk_grown (g:=gb137) (o:=.cells #[.int .i64 a1_0,.int .i64 a1_1,.string a1_2] 24 (0,0)) (by (with_reducible repeat (first|apply zb1|apply zb2|apply zb3));exact BK137.out) hg (Kd.R_ne HO0.out BK137.out (by decide)));have n1_:=Aside0.mk (hb);have n2_:=Aside0.mk (Kept.of_grown (S:=(fun k_=>P0_ k_)) hg (by repeat (first|(with_reducible first|exact HK.out|apply Kept.alloc|apply Kept.drewN|apply Kept.drew|refine Kept.setCell ?_ (.inr GW137.out) _)|exact HK.out)) (fun k_ e_=>(HO0.out.1 k_ e_)));have n3_:=Aside0.mk (ho);clear BK137;clear HB;clear HK;clear HO0;have BK137:=n0_;have HB:=n1_;have HK:=n2_;have HO140:=n3_;clear n0_ n1_ n2_ n3_;clear ho hb hg hat;obtain ⟨hcz9_0,hcz9_1,hcz9_2⟩:=zc3 BK137.out;obtain ⟨hfz9_0,hfz9_1,hfz9_2⟩:=zf3 BK137.out;obtain ⟨Ao10,co10,eo10⟩:=Kd.R_slice HO140.out;subst eo10)|((with_reducible refine gate_callee (f:=42) rfl ?_);refine goesL_ (some 18) rfl rfl Tryd.func42 (by kernel_rfl) rfl #[.slice Ao10 y138.length co10,.int .u64 (IntKind.u64.wrap (a1_1)),.int .i64 8] rfl (by (try simp only [List.map_toArray,List.map_cons,List.map_nil]);first|done|rfl|(simp only [List.length_drop,List.length_take];rfl)|(simp (disch:=omega) only [u64_in];rfl)) ?_;(with_reducible refine (pack_Num.calls k (fun k_=>some k_=(.slice Ao10 y138.length co10:Value).ownBlock) (.slice Ao10 y138.length co10) y138 (IntKind.u64.wrap (a1_1)) 8 t141 w0 _ ?side1 ?side2 A5.out).mono ?_);(case side1=>repeat (first|(with_reducible first|exact HB.out|apply zl1|apply zl2|apply zl3|refine below_set ?_ GE137.out)|exact HB.out));(case side2=>exact Kd.R_tight rfl HO140.out);rintro e w11 ⟨v142,rfl,ho0,hb,hkp⟩;refine ⟨_,rfl,?_⟩;have n0_:=Aside0.mk (blk_kept (by (with_reducible repeat (first|apply zb1|apply zb2|apply zb3));exact BK137.out) hkp (fun hs_=>(fun e_=>(Kd.R_ne HO140.out BK137.out (by decide)) e_) hs_));have n1_:=Aside0.mk (Kd.R_mono (ok':=fun k_=>(P0_ k_ ∨ w.heap.size≤k_)) ho0 (fun k_ hk_=>Or.elim hk_ (fun hs_=>(HO140.out.1 k_ (hs_).symm)) (fun hn_=>(.inr (Nat.le_trans (by first|exact HK.out.1|exact (show Kept w _ (fun k_=>P0_ k_) from by repeat (first|(with_reducible first|exact HK.out|apply Kept.alloc|apply Kept.drewN|apply Kept.drew|refine Kept.setCell ?_ (.inr GW137.out) _)|exact HK.out)).1) hn_)))));have n2_:=Aside0.mk (Kept.then_ (S:=(fun k_=>P0_ k_)) (by repeat (first|(with_reducible first|exact HK.out|apply Kept.alloc|apply Kept.drewN|apply Kept.drew|refine Kept.setCell ?_ (.inr GW137.out) _)|exact HK.out)) hkp (fun k_ hs_=>(fun e_=>(HO140.out.1 k_ e_.symm)) hs_));have n3_:=Aside0.mk (hb);clear BK137;clear HK;clear HB;clear HO140;have BK137:=n0_;have HO143:=n1_;have HK:=n2_;have HB:=n3_;clear n0_ n1_ n2_ n3_;(try clear hb);(try clear hkp);(try clear ho0)))
   go_ret
   exact ⟨_,by first|(with_reducible rfl)|(simp only [isEmpty_bne,Bool.not_not] <;> rfl)|rfl|(simp [*,errW_none,errW_some] <;> rfl),by (with_reducible repeat (first|apply zk1|apply zk2|apply zk3));exact HO143.out,by repeat (first|(with_reducible first|exact HB.out|apply zl1|apply zl2|apply zl3|refine below_set ?_ GE137.out)|exact HB.out),by repeat (first|(with_reducible first|exact HK.out|apply Kept.alloc|apply Kept.drewN|apply Kept.drew|refine Kept.setCell ?_ (.inr GW137.out) _)|exact HK.out)⟩
  ·rw [if_neg c4] at H
   have c4b0:(a1_0 == 1)=false:=beq_eq_false_iff_ne.mpr c4
   have c4b1:(a1_0 != 1)=true:=bne_iff_ne.mpr c4
   replace H:=Option.bind_eq_some_iff.mp H
   obtain ⟨t144,A120,H⟩:=H
   replace H:(some t144)=some r:=H
   have A12:=Aside0.mk A120
   clear A120
   obtain rfl:=Option.some.inj H
   go_enter Tryd.func70,Tryd.ntmps70
   go_wp2_with (first|((with_reducible refine gate_dst (N:=3) rfl ?_);refine box_event ?hg (N:=3) ?hd (cs:=#[.int .i64 a1_0,.int .i64 a1_1,.string a1_2]) (t:=24) ?hr ?_;(case hd=>rfl);(case hg=>rfl);(case hr=>first|(go_simp;done)|(go_simp;rfl));intro gb137 hg w13 hbox hb;replace HO0:=Aside0.mk (Kd.R_below (by (with_reducible repeat (first|apply zk1|apply zk2|apply zk3));exact HO0.out) hb);have BK137:=Aside0.mk (hbox);have GW137:=Aside0.mk ((by rw [hg];exact (by first|exact HK.out.1|exact (show Kept w _ (fun k_=>P0_ k_) from by repeat (first|(with_reducible first|exact HK.out|apply Kept.alloc|apply Kept.drewN|apply Kept.drew)|exact HK.out)).1):w.heap.size≤gb137));replace HK:=Aside0.mk (Kept.below (S:=(fun k_=>P0_ k_)) (by repeat (first|(with_reducible first|exact HK.out|apply Kept.alloc|apply Kept.drewN|apply Kept.drew)|exact HK.out)) hb);have GE137:=Aside0.mk ((by rw [hg];exact (below_size (by repeat (first|(with_reducible first|exact HB.out|apply zl1|apply zl2|apply zl3)|exact HB.out))):w0.heap.size≤gb137));replace HB:=Aside0.mk (below_step (by repeat (first|(with_reducible first|exact HB.out|apply zl1|apply zl2|apply zl3)|exact HB.out)) hb);clear hb hbox hg;obtain ⟨hcz14_0,hcz14_1,hcz14_2⟩:=zc3 BK137.out;obtain ⟨hfz14_0,hfz14_1,hfz14_2⟩:=zf3 BK137.out)|((with_reducible refine gate_builtin (b:=.append) (xs:=#[.tmp 5,.tmp 9]) rfl ?_);at_builtin;refine Kd.R_append (Kd.int .u8) (w0:=w0) w0.heap.size rfl (.tmp 5) (.tmp 9) 64 5 (.int .u8 0) 1 rfl Tryd.underlying64 info5 rfl (by decide) (by omega) u9000_ l0 ((a1_0) % 256) [.int .u8 ((a1_0) % 256)] (fun k_=>(P0_ k_ ∨ w.heap.size≤k_)) (fun _=>False) rfl rfl ?aP (fun _ hk=>hk.elim) ?aF ?aO ?aB ?aS ?aL ?_;(case aP=>exact rfl);(case aB=>exact (by repeat (first|(with_reducible first|exact HB.out|apply zl1|apply zl2|apply zl3|refine below_set ?_ GE137.out)|exact HB.out)));(case aF=>exact (fun k_ hk=>(.inr (Nat.le_trans (by first|exact HK.out.1|exact (show Kept w _ (fun k_=>P0_ k_) from by repeat (first|(with_reducible first|exact HK.out|apply Kept.alloc|apply Kept.drewN|apply Kept.drew|refine Kept.setCell ?_ (.inr GW137.out) _)|exact HK.out)).1) hk))));(case aO=>exact (by (with_reducible repeat (first|apply zk1|apply zk2|apply zk3));exact HO0.out));(case aS=>exact (below_size (by repeat (first|(with_reducible first|exact HB.out|apply zl1|apply zl2|apply zl3|refine below_set ?_ GE137.out)|exact HB.out))));(case aL=>have:=LMc3.out;omega);intro v139 w15 ho hb hg hat;rw [← Ny138.out] at ho;have n0_:=Aside0.mk (blk_grown (g:=gb137) (o:=.cells #[.int .i64 a1_0,.int .i64 a1_1,.string a1_2] 24 (0,0)) (by (with_reducible repeat (first|apply zb1|apply zb2|apply zb3));exact BK137.out) hg (Kd.R_ne HO0.out BK137.out (by decide)));have n1_:=Aside0.mk (hb);have n2_:=Aside0.mk (Kept.of_grown (S:=(fun k_=>P0_ k_)) hg (by repeat (first|(with_reducible first|exact HK.out|apply Kept.alloc|apply Kept.drewN|apply Kept.drew|refine Kept.setCell ?_ (.inr GW137.out) _)|exact HK.out)) (fun k_ e_=>(HO0.out.1 k_ e_)));have n3_:=Aside0.mk (ho);clear BK137;clear HB;clear HK;clear HO0;have BK137:=n0_;have HB:=n1_;have HK:=n2_;have HO140:=n3_;clear n0_ n1_ n2_ n3_;clear ho hb hg hat;obtain ⟨hcz16_0,hcz16_1,hcz16_2⟩:=zc3 BK137.out;obtain ⟨hfz16_0,hfz16_1,hfz16_2⟩:=zf3 BK137.out;obtain ⟨Ao17,co17,eo17⟩:=Kd.R_slice HO140.out;subst eo17)|((with_reducible refine gate_callee (f:=77) rfl ?_);refine goesL_ (some 22) rfl rfl Tryd.func77 (by kernel_rfl) rfl #[.slice Ao17 y138.length co17,.string a1_2] rfl (by (try simp only [List.map_toArray,List.map_cons,List.map_nil]);first|done|rfl|(simp only [List.length_drop,List.length_take];rfl)|(simp (disch:=omega) only [u64_in];rfl)) ?_;(with_reducible refine (pack_Str.calls (fun k_=>some k_=(.slice Ao17 y138.length co17:Value).ownBlock) (.slice Ao17 y138.length co17) y138 a1_2 t144 w0 _ ?side1 ?side2 A12.out).mono ?_);(case side1=>repeat (first|(with_reducible first|exact HB.out|apply zl1|apply zl2|apply zl3|refine below_set ?_ GE137.out)|exact HB.out));(case side2=>exact Kd.R_tight rfl HO140.out);rintro e w18 ⟨v145,rfl,ho0,hb,hkp⟩;refine ⟨_,rfl,?_⟩;have n0_:=Aside0.mk (blk_kept (by (with_reducible repeat (first|apply zb1|apply zb2|apply zb3));exact BK137.out) hkp (fun hs_=>(fun e_=>(Kd.R_ne HO140.out BK137.out (by decide)) e_) hs_));have n1_:=Aside0.mk (Kd.R_mono (ok':=fun k_=>(P0_ k_ ∨ w.heap.size≤k_)) ho0 (fun k_ hk_=>Or.elim hk_ (fun hs_=>(HO140.out.1 k_ (hs_).symm)) (fun hn_=>(.inr (Nat.le_trans (by first|exact HK.out.1|exact (show Kept w _ (fun k_=>P0_ k_) from by repeat (first|(with_reducible first|exact HK.out|apply Kept.alloc|apply Kept.drewN|apply Kept.drew|refine Kept.setCell ?_ (.inr GW137.out) _)|exact HK.out)).1) hn_)))));have n2_:=Aside0.mk (Kept.then_ (S:=(fun k_=>P0_ k_)) (by repeat (first|(with_reducible first|exact HK.out|apply Kept.alloc|apply Kept.drewN|apply Kept.drew|refine Kept.setCell ?_ (.inr GW137.out) _)|exact HK.out)) hkp (fun k_ hs_=>(fun e_=>(HO140.out.1 k_ e_.symm)) hs_));have n3_:=Aside0.mk (hb);clear BK137;clear HK;clear HB;clear HO140;have BK137:=n0_;have HO146:=n1_;have HK:=n2_;have HB:=n3_;clear n0_ n1_ n2_ n3_;(try clear hb);(try clear hkp);(try clear ho0)))
   go_ret
   exact ⟨_,by first|(with_reducible rfl)|(simp only [isEmpty_bne,Bool.not_not] <;> rfl)|rfl|(simp [*,errW_none,errW_some] <;> rfl),by (with_reducible repeat (first|apply zk1|apply zk2|apply zk3));exact HO146.out,by repeat (first|(with_reducible first|exact HB.out|apply zl1|apply zl2|apply zl3|refine below_set ?_ GE137.out)|exact HB.out),by repeat (first|(with_reducible first|exact HK.out|apply Kept.alloc|apply Kept.drewN|apply Kept.drew|refine Kept.setCell ?_ (.inr GW137.out) _)|exact HK.out)⟩
 ·rw [if_neg c3] at H
  exact absurd H (by simp)

/-! ### effects_Value: function 58 -/
def effects_Value.f (k:Nat) (a0_0:Int) (a0_1:Int) (a0_2:ByteArray):Option (ByteArray × Int):=(effects_odd.f a0_0 a0_1 a0_2).bind fun t148=>(if t148=true then (some ((⟨#[]⟩:ByteArray),6)) else ((effects_put.f k ([]:List Int) a0_0 a0_1 a0_2).bind fun t149=>(some (strOfNums t149,0))))
theorem effects_Value.mono:∀ a0 a1 a2 k,LeO (effects_Value.f k a0 a1 a2) (effects_Value.f (k + 1) a0 a1 a2):=by
 intro a0 a1 a2 k
 unfold effects_Value.f
 repeat' first
   | (with_reducible exact effects_put.mono _ _ _ _ _)
   | (with_reducible exact LeO.refl _)
   | (with_reducible exact LeO.none _)
   | (with_reducible refine LeO.ite ?_ ?_)
   | (with_reducible refine LeO.bind ?_ (fun _=>?_))
   | exact effects_put.mono _ _ _ _ _
   | exact LeO.none _
   | refine LeO.ite ?_ ?_
   | refine LeO.bind ?_ (fun _=>?_)
set_option maxHeartbeats 8000000 in
set_option maxRecDepth 100000 in
theorem effects_Value.calls (k:Nat) (a0_0:Int) (a0_1:Int) (a0_2:ByteArray) (r1:ByteArray) (r2:Int) (w:World) (h:effects_Value.f k a0_0 a0_1 a0_2=some (r1,r2)) :
  Calls Tryd.prog 58 #[.agg #[.int .i64 a0_0,.int .i64 a0_1,.string a0_2]] w fun e w'=>e=.returned (.tuple #[.string r1,.int .i64 r2])∧Below w.heap.size w w':=by
 have hu24:=Tryd.underlying24
 have HB:=Aside0.mk (Below.refl w.heap.size w)
 have H:((effects_odd.f a0_0 a0_1 a0_2).bind fun t148=>(if t148=true then (some ((⟨#[]⟩:ByteArray),6)) else ((effects_put.f k ([]:List Int) a0_0 a0_1 a0_2).bind fun t149=>(some (strOfNums t149,0)))))=some (r1,r2):=h
 clear h
 replace H:=Option.bind_eq_some_iff.mp H
 obtain ⟨t148,A20,H⟩:=H
 replace H:(if t148=true then (some ((⟨#[]⟩:ByteArray),6)) else ((effects_put.f k ([]:List Int) a0_0 a0_1 a0_2).bind fun t149=>(some (strOfNums t149,0))))=some (r1,r2):=H
 have A2:=Aside0.mk A20
 clear A20
 by_cases c3:t148=true
 ·subst c3
  have H1:(some ((⟨#[]⟩:ByteArray),6))=some (r1,r2):=by rw [if_pos rfl] at H;exact H
  clear H
  have H:=H1
  clear H1
  simp only [Option.some.injEq,Prod.mk.injEq] at H
  obtain ⟨rfl,rfl⟩:=H
  go_enter Tryd.func58,Tryd.ntmps58
  go_wp2_with (first|((with_reducible refine gate_dst (N:=1) rfl ?_);refine box_event ?hg (N:=1) ?hd (cs:=#[.int .i64 a0_0,.int .i64 a0_1,.string a0_2]) (t:=24) ?hr ?_;(case hd=>rfl);(case hg=>rfl);(case hr=>first|(go_simp;done)|(go_simp;rfl));intro gb147 hg w4 hbox hb;have BK147:=Aside0.mk (hbox);have GW147:=Aside0.mk ((by rw [hg];exact (below_size (by repeat (first|(with_reducible first|exact HB.out|apply zl1|apply zl2|apply zl3)|exact HB.out))):w.heap.size≤gb147));have GE147:=Aside0.mk ((by rw [hg];exact (below_size (by repeat (first|(with_reducible first|exact HB.out|apply zl1|apply zl2|apply zl3)|exact HB.out))):w.heap.size≤gb147));replace HB:=Aside0.mk (below_step (by repeat (first|(with_reducible first|exact HB.out|apply zl1|apply zl2|apply zl3)|exact HB.out)) hb);clear hb hbox hg;obtain ⟨hcz5_0,hcz5_1,hcz5_2⟩:=zc3 BK147.out;obtain ⟨hfz5_0,hfz5_1,hfz5_2⟩:=zf3 BK147.out)|((with_reducible refine gate_callee (f:=69) rfl ?_);refine goesL_ (some 5) rfl rfl Tryd.func69 (by kernel_rfl) rfl #[.agg #[.int .i64 a0_0,.int .i64 a0_1,.string a0_2]] rfl (by (try simp only [List.map_toArray,List.map_cons,List.map_nil]);first|done|rfl|(simp only [List.length_drop,List.length_take];rfl)|(simp (disch:=omega) only [u64_in];rfl)) ?_;(with_reducible refine (effects_odd.calls a0_0 a0_1 a0_2 true _ A2.out).mono ?_);rintro e w6 ⟨rfl,hb⟩;refine ⟨_,rfl,?_⟩;replace BK147:=Aside0.mk (blk_below (g:=gb147) (o:=.cells #[.int .i64 a0_0,.int .i64 a0_1,.string a0_2] 24 (0,0)) (by (with_reducible repeat (first|apply zb1|apply zb2|apply zb3));exact BK147.out) hb);replace HB:=Aside0.mk (below_step (by repeat (first|(with_reducible first|exact HB.out|apply zl1|apply zl2|apply zl3|refine below_set ?_ GE147.out)|exact HB.out)) hb);(try clear hb)))
  go_ret2
  exact ⟨by first|(with_reducible rfl)|(simp only [isEmpty_bne,Bool.not_not] <;> rfl)|rfl|(simp [*,errW_none,errW_some] <;> rfl),by repeat (first|(with_reducible first|exact HB.out|apply zl1|apply zl2|apply zl3|refine below_set ?_ GE147.out)|exact HB.out)⟩
 ·replace c3:=Bool.eq_false_iff.mpr c3
  subst c3
  have H1:((effects_put.f k ([]:List Int) a0_0 a0_1 a0_2).bind fun t149=>(some (strOfNums t149,0)))=some (r1,r2):=by rw [if_neg (show ¬ (false=true) by decide)] at H;exact H
  clear H
  have H:=H1
  clear H1
  replace H:=Option.bind_eq_some_iff.mp H
  obtain ⟨t149,A70,H⟩:=H
  replace H:(some (strOfNums t149,0))=some (r1,r2):=H
  have A7:=Aside0.mk A70
  clear A70
  simp only [Option.some.injEq,Prod.mk.injEq] at H
  obtain ⟨rfl,rfl⟩:=H
  go_enter Tryd.func58,Tryd.ntmps58
  go_wp2_with (first|((with_reducible refine gate_dst (N:=1) rfl ?_);refine box_event ?hg (N:=1) ?hd (cs:=#[.int .i64 a0_0,.int .i64 a0_1,.string a0_2]) (t:=24) ?hr ?_;(case hd=>rfl);(case hg=>rfl);(case hr=>first|(go_simp;done)|(go_simp;rfl));intro gb147 hg w8 hbox hb;have BK147:=Aside0.mk (hbox);have GW147:=Aside0.mk ((by rw [hg];exact (below_size (by repeat (first|(with_reducible first|exact HB.out|apply zl1|apply zl2|apply zl3)|exact HB.out))):w.heap.size≤gb147));have GE147:=Aside0.mk ((by rw [hg];exact (below_size (by repeat (first|(with_reducible first|exact HB.out|apply zl1|apply zl2|apply zl3)|exact HB.out))):w.heap.size≤gb147));replace HB:=Aside0.mk (below_step (by repeat (first|(with_reducible first|exact HB.out|apply zl1|apply zl2|apply zl3)|exact HB.out)) hb);clear hb hbox hg;obtain ⟨hcz9_0,hcz9_1,hcz9_2⟩:=zc3 BK147.out;obtain ⟨hfz9_0,hfz9_1,hfz9_2⟩:=zf3 BK147.out)|((with_reducible refine gate_callee (f:=69) rfl ?_);refine goesL_ (some 5) rfl rfl Tryd.func69 (by kernel_rfl) rfl #[.agg #[.int .i64 a0_0,.int .i64 a0_1,.string a0_2]] rfl (by (try simp only [List.map_toArray,List.map_cons,List.map_nil]);first|done|rfl|(simp only [List.length_drop,List.length_take];rfl)|(simp (disch:=omega) only [u64_in];rfl)) ?_;(with_reducible refine (effects_odd.calls a0_0 a0_1 a0_2 false _ A2.out).mono ?_);rintro e w10 ⟨rfl,hb⟩;refine ⟨_,rfl,?_⟩;replace BK147:=Aside0.mk (blk_below (g:=gb147) (o:=.cells #[.int .i64 a0_0,.int .i64 a0_1,.string a0_2] 24 (0,0)) (by (with_reducible repeat (first|apply zb1|apply zb2|apply zb3));exact BK147.out) hb);replace HB:=Aside0.mk (below_step (by repeat (first|(with_reducible first|exact HB.out|apply zl1|apply zl2|apply zl3|refine below_set ?_ GE147.out)|exact HB.out)) hb);(try clear hb);obtain ⟨hcz11_0,hcz11_1,hcz11_2⟩:=zc3 BK147.out;obtain ⟨hfz11_0,hfz11_1,hfz11_2⟩:=zf3 BK147.out)|((with_reducible refine gate_callee (f:=70) rfl ?_);refine goesL_ (some 7) rfl rfl Tryd.func70 (by kernel_rfl) rfl #[.slice none 0 0,.agg #[.int .i64 a0_0,.int .i64 a0_1,.string a0_2]] rfl (by (try simp only [List.map_toArray,List.map_cons,List.map_nil]);first|done|rfl|(simp only [List.length_drop,List.length_take];rfl)|(simp (disch:=omega) only [u64_in];rfl)) ?_;(refine (effects_put.calls k (fun k_=>some k_=(.slice none 0 0:Value).ownBlock) (.slice none 0 0) ([]:List Int) a0_0 a0_1 a0_2 t149 w _ ?side1 ?side2 A7.out).mono ?_);(case side1=>repeat (first|(with_reducible first|exact HB.out|apply zl1|apply zl2|apply zl3|refine below_set ?_ GE147.out)|exact HB.out));(case side2=>exact Kd.R_nil _ _ _ _ _);rintro e w12 ⟨v150,rfl,ho0,hb,hkp⟩;refine ⟨_,rfl,?_⟩;replace BK147:=Aside0.mk (blk_kept (by (with_reducible repeat (first|apply zb1|apply zb2|apply zb3));exact BK147.out) hkp (fun hs_=>(fun e_=>by simp [Value.ownBlock] at e_) hs_));have HO151:=Aside0.mk (Kd.R_mono (ok':=fun k_=>True) ho0 (fun k_ hk_=>trivial));replace HB:=Aside0.mk (hb);(try clear hb);(try clear hkp);(try clear ho0);have hcv13:=own_string (P:=Tryd.prog) Tryd.underlying64 Tryd.underlying5 Tryd.underlying9 (Kd.own_of_R HO151.out)))
  go_ret2
  exact ⟨by first|(with_reducible rfl)|(simp only [isEmpty_bne,Bool.not_not] <;> rfl)|rfl|(simp [*,errW_none,errW_some] <;> rfl),by repeat (first|(with_reducible first|exact HB.out|apply zl1|apply zl2|apply zl3|refine below_set ?_ GE147.out)|exact HB.out)⟩

/-! ### flows_odd: function 54 -/
def flows_odd.f (k:Nat) (a0_0:Int) (a0_1:Int) (a0_2:ByteArray):Option (Bool):=(effects_Value.f k a0_0 a0_1 a0_2).bind fun bt153=>(some (bt153.2 != 0))
theorem flows_odd.mono:∀ a0 a1 a2 k,LeO (flows_odd.f k a0 a1 a2) (flows_odd.f (k + 1) a0 a1 a2):=by
 intro a0 a1 a2 k
 unfold flows_odd.f
 repeat' first
   | (with_reducible exact effects_Value.mono _ _ _ _)
   | (with_reducible exact LeO.refl _)
   | (with_reducible exact LeO.none _)
   | (with_reducible refine LeO.ite ?_ ?_)
   | (with_reducible refine LeO.bind ?_ (fun _=>?_))
   | exact effects_Value.mono _ _ _ _
   | exact LeO.none _
   | refine LeO.ite ?_ ?_
   | refine LeO.bind ?_ (fun _=>?_)
set_option maxHeartbeats 8000000 in
set_option maxRecDepth 100000 in
theorem flows_odd.calls (k:Nat) (a0_0:Int) (a0_1:Int) (a0_2:ByteArray) (r:Bool) (w:World) (h:flows_odd.f k a0_0 a0_1 a0_2=some r) :
  Calls Tryd.prog 54 #[.agg #[.int .i64 a0_0,.int .i64 a0_1,.string a0_2]] w fun e w'=>e=.returned (.bool r)∧Below w.heap.size w w':=by
 have hu24:=Tryd.underlying24
 have HB:=Aside0.mk (Below.refl w.heap.size w)
 have H:((effects_Value.f k a0_0 a0_1 a0_2).bind fun bt153=>(some (bt153.2 != 0)))=some r:=h
 clear h
 replace H:=Option.bind_eq_some_iff.mp H
 obtain ⟨⟨t153,t154⟩,A20,H⟩:=H
 replace H:(some (t154 != 0))=some r:=H
 have A2:=Aside0.mk A20
 clear A20
 obtain rfl:=Option.some.inj H
 go_enter Tryd.func54,Tryd.ntmps54
 go_wp2_with (first|((with_reducible refine gate_dst (N:=1) rfl ?_);refine box_event ?hg (N:=1) ?hd (cs:=#[.int .i64 a0_0,.int .i64 a0_1,.string a0_2]) (t:=24) ?hr ?_;(case hd=>rfl);(case hg=>rfl);(case hr=>first|(go_simp;done)|(go_simp;rfl));intro gb152 hg w3 hbox hb;have BK152:=Aside0.mk (hbox);have GW152:=Aside0.mk ((by rw [hg];exact (below_size (by repeat (first|(with_reducible first|exact HB.out|apply zl1|apply zl2|apply zl3)|exact HB.out))):w.heap.size≤gb152));have GE152:=Aside0.mk ((by rw [hg];exact (below_size (by repeat (first|(with_reducible first|exact HB.out|apply zl1|apply zl2|apply zl3)|exact HB.out))):w.heap.size≤gb152));replace HB:=Aside0.mk (below_step (by repeat (first|(with_reducible first|exact HB.out|apply zl1|apply zl2|apply zl3)|exact HB.out)) hb);clear hb hbox hg;obtain ⟨hcz4_0,hcz4_1,hcz4_2⟩:=zc3 BK152.out;obtain ⟨hfz4_0,hfz4_1,hfz4_2⟩:=zf3 BK152.out)|((with_reducible refine gate_callee (f:=58) rfl ?_);refine goesL_ (some 7) rfl rfl Tryd.func58 (by kernel_rfl) rfl #[.agg #[.int .i64 a0_0,.int .i64 a0_1,.string a0_2]] rfl (by (try simp only [List.map_toArray,List.map_cons,List.map_nil]);first|done|rfl|(simp only [List.length_drop,List.length_take];rfl)|(simp (disch:=omega) only [u64_in];rfl)) ?_;(with_reducible refine (effects_Value.calls k a0_0 a0_1 a0_2 t153 t154 _ A2.out).mono ?_);rintro e w5 ⟨rfl,hb⟩;refine ⟨_,rfl,?_⟩;replace BK152:=Aside0.mk (blk_below (g:=gb152) (o:=.cells #[.int .i64 a0_0,.int .i64 a0_1,.string a0_2] 24 (0,0)) (by (with_reducible repeat (first|apply zb1|apply zb2|apply zb3));exact BK152.out) hb);replace HB:=Aside0.mk (below_step (by repeat (first|(with_reducible first|exact HB.out|apply zl1|apply zl2|apply zl3|refine below_set ?_ GE152.out)|exact HB.out)) hb);(try clear hb)))
 go_ret
 exact ⟨by first|(with_reducible rfl)|(simp only [isEmpty_bne,Bool.not_not] <;> rfl)|rfl|(simp [*,errW_none,errW_some] <;> rfl),by repeat (first|(with_reducible first|exact HB.out|apply zl1|apply zl2|apply zl3|refine below_set ?_ GE152.out)|exact HB.out)⟩

end Go.Proofs.YtobjnhkjahhfnaaDoor.PAll
