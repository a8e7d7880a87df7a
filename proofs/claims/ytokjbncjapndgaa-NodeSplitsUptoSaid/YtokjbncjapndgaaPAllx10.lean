/- Printed walks of the functions that the laws reach: each function, what it computes, and that it does. No conditions. -/
import Derived.Test.YtokjbncjapndgaaPAllx0
namespace Go.Proofs.Ytokjbncjapndgaa.PAll
open Go.RowKit Go.Proofs.Ytokjbncjapndgaa.XW Go.Proofs.Ytokjbncjapndgaa.XLib Go.Proofs.YtokjbncjapndgaaW.PrintWords Go.Proofs.YtokjbncjapndgaaW.PrintLast Go.Proofs.YtokjbncjapndgaaW.PrintMore
attribute [local go_sem] max2_int min2_int max_two min_two max_three min_three max_four min_four   -- for this text's walks alone
set_option linter.unusedVariables false
set_option linter.unusedSimpArgs false

/-! ### pack_Str: function 24 -/
def pack_Str.f (l0:List Int) (a1:ByteArray):Option (List Int):=if 0≤(mn (a1.size:Int) 255) then (if (mn (a1.size:Int) 255)≤(a1.size:Int) then (if l0.length < 140737488355328 then ((some (l0 ++ [(((a1.extract 0 ((mn (a1.size:Int) 255):Int).toNat).size:Int)) % 256]:List Int)).bind fun y164=>(if y164.length + (a1.extract 0 ((mn (a1.size:Int) 255):Int).toNat).size < 140737488355328 then (some (y164 ++ bytesOf (a1.extract 0 ((mn (a1.size:Int) 255):Int).toNat))) else (none))) else (none)) else (none)) else (none)
set_option maxHeartbeats 8000000 in
set_option maxRecDepth 100000 in
theorem pack_Str.calls (P0_:Nat→Prop) (u9000_:Value) (l0:List Int) (a1:ByteArray) (r:List Int) (w0 w:World) (hB:Below w0.heap.size w0 w) (ho0:Kd.R (Kd.int .u8) 5 w w0.heap.size P0_ u9000_ l0) (h:pack_Str.f l0 a1=some r) :
  Calls Try.prog 24 #[u9000_,.string a1] w fun e w'=>∃ v0_:Value,e=.returned (v0_)∧Kd.R (Kd.int .u8) 5 w' w0.heap.size (fun k_=>(P0_ k_ ∨ w.heap.size≤k_)) v0_ r∧Below w0.heap.size w0 w'∧Kept w w' (fun k_=>P0_ k_):=by
 have HO0:=Aside0.mk (show Kd.R (Kd.int .u8) 5 w w0.heap.size (fun k_=>(P0_ k_ ∨ w.heap.size≤k_)) u9000_ l0 from Kd.R_mono ho0 (fun k_ hk=>(.inl hk)))
 have HK:=Aside0.mk (Kept.refl w (fun k_=>P0_ k_))
 have HW0:=Aside0.mk hB.size
 have HB:=Aside0.mk hB
 clear hB
 have H:(if 0≤(mn (a1.size:Int) 255) then (if (mn (a1.size:Int) 255)≤(a1.size:Int) then (if l0.length < 140737488355328 then ((some (l0 ++ [(((a1.extract 0 ((mn (a1.size:Int) 255):Int).toNat).size:Int)) % 256]:List Int)).bind fun y164=>(if y164.length + (a1.extract 0 ((mn (a1.size:Int) 255):Int).toNat).size < 140737488355328 then (some (y164 ++ bytesOf (a1.extract 0 ((mn (a1.size:Int) 255):Int).toNat))) else (none))) else (none)) else (none)) else (none))=some r:=h
 clear h
 obtain ⟨ji3,hji3⟩:∃ j_:Int,(mn (a1.size:Int) 255)=j_:=⟨_,rfl⟩
 replace H:(if 0≤(ji3) then (if (ji3)≤(a1.size:Int) then (if l0.length < 140737488355328 then ((some (l0 ++ [(((a1.extract 0 ((ji3):Int).toNat).size:Int)) % 256]:List Int)).bind fun y164=>(if y164.length + (a1.extract 0 ((ji3):Int).toNat).size < 140737488355328 then (some (y164 ++ bytesOf (a1.extract 0 ((ji3):Int).toNat))) else (none))) else (none)) else (none)) else (none))=some r:=by first|(rw [hji3] at H;exact H)|(simp only [hji3] at H ⊢;exact H)
 (try (have hji3h:ji3≤255:=by (rw [← hji3];unfold mn;(repeat' split) <;> omega)))
 (try (have hji3g:ji3≤64:=by omega))
 (try (have hji3l:0≤ji3:=by (rw [← hji3];unfold mn;(repeat' split) <;> omega)))
 (try (have hji3m:0≤ji3:=by omega))
 have hji3_:(if 255 < (a1.size:Int) then 255 else (a1.size:Int))=ji3:=hji3
 by_cases c4:0≤(ji3)
 ·rw [if_pos c4] at H
  have c4b0:=eq_true c4
  have c4b1:decide (0≤(ji3))=true:=decide_eq_true c4
  clear c4
  by_cases c5:(ji3)≤(a1.size:Int)
  ·rw [if_pos c5] at H
   have c5b0:=eq_true c5
   have c5b1:decide ((ji3)≤(a1.size:Int))=true:=decide_eq_true c5
   clear c5
   by_cases c6:l0.length < 140737488355328
   ·rw [if_pos c6] at H
    have LMc6:=Aside0.mk c6
    clear c6
    obtain ⟨y164,hy164⟩:∃ y_:List Int,y_=(l0 ++ [(((a1.extract 0 ((ji3):Int).toNat).size:Int)) % 256]):=⟨_,rfl⟩
    replace H:(if y164.length + (a1.extract 0 ((ji3):Int).toNat).size < 140737488355328 then (some (y164 ++ bytesOf (a1.extract 0 ((ji3):Int).toNat))) else (none))=some r:=by first|(rw [hy164];with_reducible exact H)|(have H2_:=(Option.bind_some _ _).symm.trans H;rw [hy164];with_reducible exact H2_)|(have H2_:=(Option.bind_some _ _).symm.trans H;with_reducible exact H2_)|with_reducible exact H|(rw [hy164];exact H)|exact H
    have Ny164:=Aside0.mk hy164
    clear hy164
    by_cases c7:y164.length + (a1.extract 0 ((ji3):Int).toNat).size < 140737488355328
    ·rw [if_pos c7] at H
     have LMc7:=Aside0.mk c7
     clear c7
     obtain ⟨y167,hy167⟩:∃ y_:List Int,y_=(y164 ++ bytesOf (a1.extract 0 ((ji3):Int).toNat)):=⟨_,rfl⟩
     replace H:(some y167)=some r:=by first|(rw [hy167];with_reducible exact H)|(have H2_:=(Option.bind_some _ _).symm.trans H;rw [hy167];with_reducible exact H2_)|(have H2_:=(Option.bind_some _ _).symm.trans H;with_reducible exact H2_)|with_reducible exact H|(rw [hy167];exact H)|exact H
     have Ny167:=Aside0.mk hy167
     clear hy167
     obtain rfl:=Option.some.inj H
     have hmx_:(((a1.extract 0 (ji3).toNat).size:Int)) % 256=max ji3 0:=by
      have h1_:0≤ji3:=by first|assumption|omega
      have h2_:ji3≤(a1.size:Int):=by first|assumption|(apply of_decide_eq_true;assumption)|omega
      rw [ByteArray.size_extract];omega
     go_enter Try.func24,Try.ntmps24
     go_wp2_with (first|((with_reducible refine gate_builtin (b:=.append) (xs:=#[.tmp 10,.tmp 14]) rfl ?_);at_builtin;refine Kd.R_append (Kd.int .u8) (w0:=w0) w0.heap.size rfl (.tmp 10) (.tmp 14) 45 5 (.int .u8 0) 1 rfl Try.underlying45 info5 rfl (by decide) (by omega) u9000_ l0 (max ji3 0) [.int .u8 (max ji3 0)] (fun k_=>(P0_ k_ ∨ w.heap.size≤k_)) (fun _=>False) rfl rfl ?aP (fun _ hk=>hk.elim) ?aF ?aO ?aB ?aS ?aL ?_;(case aP=>exact rfl);(case aB=>exact (by repeat (first|(with_reducible first|exact HB.out|apply zl1|apply zl2|apply zl3)|exact HB.out)));(case aF=>exact (fun k_ hk=>(.inr (Nat.le_trans (by first|exact HK.out.1|exact (show Kept w _ (fun k_=>P0_ k_) from by repeat (first|(with_reducible first|exact HK.out|apply Kept.alloc|apply Kept.drewN|apply Kept.drew)|exact HK.out)).1) hk))));(case aO=>exact (by (with_reducible repeat (first|apply zk1|apply zk2|apply zk3));exact HO0.out));(case aS=>exact (below_size (by repeat (first|(with_reducible first|exact HB.out|apply zl1|apply zl2|apply zl3)|exact HB.out))));(case aL=>have:=LMc6.out;omega);intro v165 w8 ho hb hg hat;rw [← hmx_,← Ny164.out] at ho;have n0_:=Aside0.mk (hb);have n1_:=Aside0.mk (Kept.of_grown (S:=(fun k_=>P0_ k_)) hg (by repeat (first|(with_reducible first|exact HK.out|apply Kept.alloc|apply Kept.drewN|apply Kept.drew)|exact HK.out)) (fun k_ e_=>(HO0.out.1 k_ e_)));have n2_:=Aside0.mk (ho);clear HB;clear HK;clear HO0;have HB:=n0_;have HK:=n1_;have HO166:=n2_;clear n0_ n1_ n2_;clear ho hb hg hat)|(at_builtin;refine R_strP (w0:=w0) w0.heap.size rfl (.tmp 15) _ 45 9 5 rfl Try.underlying45 Try.underlying9 info5 v165 y164 (a1.extract 0 ((ji3):Int).toNat) (fun k_=>(P0_ k_ ∨ w.heap.size≤k_)) rfl rfl ?aF ?aO ?aB ?aS ?aL ?_;(case aB=>exact (by repeat (first|(with_reducible first|exact HB.out|apply zl1|apply zl2|apply zl3)|exact HB.out)));(case aF=>exact (fun k_ hk=>(.inr (Nat.le_trans (by first|exact HK.out.1|exact (show Kept w _ (fun k_=>P0_ k_) from by repeat (first|(with_reducible first|exact HK.out|apply Kept.alloc|apply Kept.drewN|apply Kept.drew)|exact HK.out)).1) hk))));(case aO=>exact (by (with_reducible repeat (first|apply zk1|apply zk2|apply zk3));exact HO166.out));(case aS=>exact (below_size (by repeat (first|(with_reducible first|exact HB.out|apply zl1|apply zl2|apply zl3)|exact HB.out))));(case aL=>have:=LMc7.out;omega);intro v168 w9 ho hb hg hat;rw [← Ny167.out] at ho;have n0_:=Aside0.mk (hb);have n1_:=Aside0.mk (Kept.of_grown (S:=(fun k_=>P0_ k_)) hg (by repeat (first|(with_reducible first|exact HK.out|apply Kept.alloc|apply Kept.drewN|apply Kept.drew)|exact HK.out)) (fun k_ e_=>(HO166.out.1 k_ e_)));have n2_:=Aside0.mk (ho);clear HB;clear HK;clear HO166;have HB:=n0_;have HK:=n1_;have HO169:=n2_;clear n0_ n1_ n2_;clear ho hb hg hat))
     go_ret
     exact ⟨_,by first|(with_reducible rfl)|(simp only [isEmpty_bne,Bool.not_not] <;> with_reducible rfl)|(simp [errW_none,errW_some] <;> with_reducible rfl)|(simp only [isEmpty_bne,Bool.not_not] <;> rfl)|rfl|(simp [errW_none,errW_some] <;> rfl)|(simp only [← hji3];first|rfl|(simp [errW_none,errW_some] <;> rfl))|(simp [*,errW_none,errW_some] <;> rfl),by (with_reducible repeat (first|apply zk1|apply zk2|apply zk3));exact HO169.out,by repeat (first|(with_reducible first|exact HB.out|apply zl1|apply zl2|apply zl3)|exact HB.out),by repeat (first|(with_reducible first|exact HK.out|apply Kept.alloc|apply Kept.drewN|apply Kept.drew)|exact HK.out)⟩
    ·rw [if_neg c7] at H
     exact absurd H (by simp)
   ·rw [if_neg c6] at H
    exact absurd H (by simp)
  ·rw [if_neg c5] at H
   exact absurd H (by simp)
 ·rw [if_neg c4] at H
  exact absurd H (by simp)

/-! ### pack_wide: function 48 -/
def pack_wide.f (a0:Int):Option (Int):=some (mn (mx a0 1) 8)
set_option maxHeartbeats 8000000 in
set_option maxRecDepth 100000 in
theorem pack_wide.calls (a0:Int) (r:Int) (w:World) (h:pack_wide.f a0=some r) :
  Calls Try.prog 48 #[.int .i64 a0] w fun e w'=>e=.returned (.int .i64 r)∧Below w.heap.size w w':=by
 have HB:=Aside0.mk (Below.refl w.heap.size w)
 have H:(some (mn (mx a0 1) 8))=some r:=h
 clear h
 obtain ⟨ji2,hji2⟩:∃ j_:Int,(mx a0 1)=j_:=⟨_,rfl⟩
 replace H:(some (mn (ji2) 8))=some r:=by first|(rw [hji2] at H;exact H)|(simp only [hji2] at H ⊢;exact H)
 (try (have hji2l:1≤ji2:=by (rw [← hji2];unfold mx;(repeat' split) <;> omega)))
 (try (have hji2m:0≤ji2:=by omega))
 have hji2_:(if a0 < 1 then 1 else a0)=ji2:=hji2
 obtain ⟨ji3,hji3⟩:∃ j_:Int,(mn (ji2) 8)=j_:=⟨_,rfl⟩
 replace H:(some ji3)=some r:=by first|(rw [hji3] at H;exact H)|(simp only [hji3] at H ⊢;exact H)
 have hji3_:(if 8 < (ji2) then 8 else (ji2))=ji3:=hji3
 obtain rfl:=Option.some.inj H
 go_enter Try.func48,Try.ntmps48
 go_wp2
 go_ret
 exact ⟨by first|(with_reducible rfl)|(simp only [isEmpty_bne,Bool.not_not] <;> with_reducible rfl)|(simp [errW_none,errW_some] <;> with_reducible rfl)|(simp only [isEmpty_bne,Bool.not_not] <;> rfl)|rfl|(simp [errW_none,errW_some] <;> rfl)|(simp only [← hji2,← hji3];first|rfl|(simp [errW_none,errW_some] <;> rfl))|(simp [*,errW_none,errW_some] <;> rfl),by repeat (first|(with_reducible first|exact HB.out|apply zl1|apply zl2|apply zl3)|exact HB.out)⟩

/-! ### pack_Num: function 25 -/
def pack_Num.l0:Nat→List Int→Int→Int→Option (List Int)
 | 0,_,_,_=>none
 | k + 1,x0,x1,x7=>if x7 ≥ 0 then (if 0≤(wrap64 (8 * x7)) then (if x0.length < 140737488355328 then (pack_Num.l0 k (x0 ++ [(shr .u64 x1 (wrap64 (8 * x7))) % 256]) x1 (wrap64 (x7 - 1))) else (none)) else (none)) else (some x0)
def pack_Num.f (k:Nat) (l0:List Int) (a1:Int) (a2:Int):Option (List Int):=(pack_wide.f a2).bind fun t170=>(pack_Num.l0 k l0 a1 (wrap64 (t170 - 1)))
theorem pack_Num.mono_l:∀ k,(∀ y0 y1 y2,LeO (pack_Num.l0 k y0 y1 y2) (pack_Num.l0 (k + 1) y0 y1 y2))
 | 0=>fun _ _ _ r h=>by simp [pack_Num.l0] at h
 | k + 1=>by
  have ih0:=pack_Num.mono_l k
  ·intro y0 y1 y2
   unfold pack_Num.l0
   repeat' first
   | (with_reducible exact ih0 _ _ _)
   | (with_reducible exact LeO.refl _)
   | (with_reducible exact LeO.none _)
   | (with_reducible refine LeO.ite ?_ ?_)
   | (with_reducible refine LeO.bind ?_ (fun _=>?_))
   | exact ih0 _ _ _
   | exact LeO.none _
   | refine LeO.ite ?_ ?_
   | refine LeO.bind ?_ (fun _=>?_)
theorem pack_Num.mono:∀ a0 a1 a2 k,LeO (pack_Num.f k a0 a1 a2) (pack_Num.f (k + 1) a0 a1 a2):=by
 intro a0 a1 a2 k
 have ih0:=pack_Num.mono_l k
 unfold pack_Num.f
 repeat' first
   | (with_reducible exact ih0 _ _ _)
   | (with_reducible exact LeO.refl _)
   | (with_reducible exact LeO.none _)
   | (with_reducible refine LeO.ite ?_ ?_)
   | (with_reducible refine LeO.bind ?_ (fun _=>?_))
   | exact ih0 _ _ _
   | exact LeO.none _
   | refine LeO.ite ?_ ?_
   | refine LeO.bind ?_ (fun _=>?_)
set_option maxHeartbeats 8000000 in
set_option maxRecDepth 100000 in
theorem pack_Num.calls (k:Nat) (P0_:Nat→Prop) (u9000_:Value) (l0:List Int) (a1:Int) (a2:Int) (r:List Int) (w0 w:World) (hB:Below w0.heap.size w0 w) (ho0:Kd.R (Kd.int .u8) 5 w w0.heap.size P0_ u9000_ l0) (h:pack_Num.f k l0 a1 a2=some r) :
  Calls Try.prog 25 #[u9000_,.int .u64 a1,.int .i64 a2] w fun e w'=>∃ v0_:Value,e=.returned (v0_)∧Kd.R (Kd.int .u8) 5 w' w0.heap.size (fun k_=>(P0_ k_ ∨ w.heap.size≤k_)) v0_ r∧Below w0.heap.size w0 w'∧Kept w w' (fun k_=>P0_ k_):=by
 have HO0:=Aside0.mk (show Kd.R (Kd.int .u8) 5 w w0.heap.size (fun k_=>(P0_ k_ ∨ w.heap.size≤k_)) u9000_ l0 from Kd.R_mono ho0 (fun k_ hk=>(.inl hk)))
 have HK:=Aside0.mk (Kept.refl w (fun k_=>P0_ k_))
 have HW0:=Aside0.mk hB.size
 have HB:=Aside0.mk hB
 clear hB
 have H:((pack_wide.f a2).bind fun t170=>(pack_Num.l0 k l0 a1 (wrap64 (t170 - 1))))=some r:=h
 clear h
 replace H:=Option.bind_eq_some_iff.mp H
 obtain ⟨t170,A40,H⟩:=H
 replace H:(pack_Num.l0 k l0 a1 (wrap64 (t170 - 1)))=some r:=H
 have A4:=Aside0.mk A40
 clear A40
 have H':=Aside0.mk H
 clear H
 go_enter Try.func25,Try.ntmps25
 go_wp2_with (first|((with_reducible refine gate_callee (f:=48) rfl ?_);refine goesL_ (some 9) rfl rfl Try.func48 (by kernel_rfl) rfl #[.int .i64 a2] rfl (by (try simp only [List.map_toArray,List.map_cons,List.map_nil]);first|done|rfl|(simp only [List.length_drop,List.length_take];rfl)|(simp (disch:=omega) only [u64_in];rfl)) ?_;(with_reducible refine (pack_wide.calls a2 t170 _ A4.out).mono ?_);rintro e w5 ⟨rfl,hb⟩;refine ⟨_,rfl,?_⟩;replace HO0:=Aside0.mk (Kd.R_below (by (with_reducible repeat (first|apply zk1|apply zk2|apply zk3));exact HO0.out) hb);replace HK:=Aside0.mk (Kept.below (S:=(fun k_=>P0_ k_)) (by repeat (first|(with_reducible first|exact HK.out|apply Kept.alloc|apply Kept.drewN|apply Kept.drew)|exact HK.out)) hb);replace HB:=Aside0.mk (below_step (by repeat (first|(with_reducible first|exact HB.out|apply zl1|apply zl2|apply zl3)|exact HB.out)) hb);(try clear hb)))
 go_loopg [0,7] k (fun kq v0 v7 w'=>∃ (x0_1:List Int) (x7_1:Int),v7=.int .i64 x7_1∧Aside0 (pack_Num.l0 kq x0_1 a1 x7_1=some r)∧Aside0 (kq≤k)∧Aside0 (Kd.R (Kd.int .u8) 5 w' w0.heap.size (fun k_=>(P0_ k_ ∨ w.heap.size≤k_)) v0 x0_1)∧Aside0 (Kept w w' (fun k_=>P0_ k_))∧Aside0 (Below w0.heap.size w0 w'))
 case atStart=>exact ⟨(l0),(wrap64 (t170 - 1)),(by first|(with_reducible rfl)|(simp;done)|(simp [*];done)|rfl|(simp only [not_isEmpty_bne])),H',⟨Nat.le_refl _⟩,⟨by (with_reducible repeat (first|apply zk1|apply zk2|apply zk3));exact HO0.out⟩,⟨by repeat (first|(with_reducible first|exact HK.out|apply Kept.alloc|apply Kept.drewN|apply Kept.drew)|exact HK.out)⟩,⟨by repeat (first|(with_reducible first|exact HB.out|apply zl1|apply zl2|apply zl3)|exact HB.out)⟩⟩
 case round =>
  clear H'
  try clear c2
  try clear p2
  try clear c4
  obtain ⟨x0_1,x7_1,rfl,HA,HK1,HO_0,HK,HB⟩:=hrel
  cases gk with
  | zero=>exact absurd HA.out (by simp [pack_Num.l0])
  | succ k1 =>
   have H:=HA.out
   clear HA
   simp only [pack_Num.l0] at H
   by_cases c6:x7_1 ≥ 0
   ·rw [if_pos c6] at H
    have c6b0:decide (0≤x7_1)=true:=decide_eq_true c6
    clear c6
    obtain ⟨ji7,hji7⟩:∃ j_:Int,(wrap64 (8 * x7_1))=j_:=⟨_,rfl⟩
    replace H:(if 0≤(ji7) then (if x0_1.length < 140737488355328 then (pack_Num.l0 k1 (x0_1 ++ [(shr .u64 a1 (ji7)) % 256]) a1 (wrap64 (x7_1 - 1))) else (none)) else (none))=some r:=by first|(rw [hji7] at H;exact H)|(simp only [hji7] at H ⊢;exact H)
    have hji7w:(IntKind.i64.wrap (8 * x7_1))=ji7:=(i64_w _).trans hji7
    by_cases c8:0≤(ji7)
    ·rw [if_pos c8] at H
     have c8b0:=eq_true c8
     have c8b1:decide (0≤(ji7))=true:=decide_eq_true c8
     clear c8
     obtain ⟨ji9,hji9⟩:∃ j_:Int,(shr .u64 a1 (ji7))=j_:=⟨_,rfl⟩
     replace H:(if x0_1.length < 140737488355328 then (pack_Num.l0 k1 (x0_1 ++ [(ji9) % 256]) a1 (wrap64 (x7_1 - 1))) else (none))=some r:=by first|(rw [hji9] at H;exact H)|(simp only [hji9] at H ⊢;exact H)
     have hji9_:(a1 / 2 ^ min (ji7).toNat 64)=ji9:=hji9
     have hji9z:(ji7)≤64→(a1 / 2 ^ (ji7).toNat)=ji9:=shr_small hji9
     by_cases c10:x0_1.length < 140737488355328
     ·rw [if_pos c10] at H
      have LMc10:=Aside0.mk c10
      clear c10
      obtain ⟨y171,hy171⟩:∃ y_:List Int,y_=(x0_1 ++ [(ji9) % 256]):=⟨_,rfl⟩
      replace H:(pack_Num.l0 k1 y171 a1 (wrap64 (x7_1 - 1)))=some r:=by first|(rw [hy171];with_reducible exact H)|(have H2_:=(Option.bind_some _ _).symm.trans H;rw [hy171];with_reducible exact H2_)|(have H2_:=(Option.bind_some _ _).symm.trans H;with_reducible exact H2_)|with_reducible exact H|(rw [hy171];exact H)|exact H
      have Ny171:=Aside0.mk hy171
      clear hy171
      have H':=Aside0.mk H
      clear H
      go_wp2_with (first|((with_reducible refine gate_builtin (b:=.append) (xs:=#[.tmp 15,.tmp 21]) rfl ?_);at_builtin;refine Kd.R_append (Kd.int .u8) (w0:=w0) w0.heap.size rfl (.tmp 15) (.tmp 21) 45 5 (.int .u8 0) 1 rfl Try.underlying45 info5 rfl (by decide) (by omega) u0 x0_1 ((ji9) % 256) [.int .u8 ((ji9) % 256)] (fun k_=>(P0_ k_ ∨ w.heap.size≤k_)) (fun _=>False) rfl rfl ?aP (fun _ hk=>hk.elim) ?aF ?aO ?aB ?aS ?aL ?_;(case aP=>exact rfl);(case aB=>exact (by repeat (first|(with_reducible first|exact HB.out|apply zl1|apply zl2|apply zl3)|exact HB.out)));(case aF=>exact (fun k_ hk=>(.inr (Nat.le_trans (by first|exact HK.out.1|exact (show Kept w _ (fun k_=>P0_ k_) from by repeat (first|(with_reducible first|exact HK.out|apply Kept.alloc|apply Kept.drewN|apply Kept.drew)|exact HK.out)).1) hk))));(case aO=>exact (by (with_reducible repeat (first|apply zk1|apply zk2|apply zk3));exact HO_0.out));(case aS=>exact (below_size (by repeat (first|(with_reducible first|exact HB.out|apply zl1|apply zl2|apply zl3)|exact HB.out))));(case aL=>have:=LMc10.out;omega);intro v172 w11 ho hb hg hat;rw [← Ny171.out] at ho;have n0_:=Aside0.mk (hb);have n1_:=Aside0.mk (Kept.of_grown (S:=(fun k_=>P0_ k_)) hg (by repeat (first|(with_reducible first|exact HK.out|apply Kept.alloc|apply Kept.drewN|apply Kept.drew)|exact HK.out)) (fun k_ e_=>(HO_0.out.1 k_ e_)));have n2_:=Aside0.mk (ho);clear HB;clear HK;clear HO_0;have HB:=n0_;have HK:=n1_;have HO173:=n2_;clear n0_ n1_ n2_;clear ho hb hg hat))
      go_roundg k1
      case measure=>have:=HK1.out;omega
      case rel=>exact ⟨(y171),(wrap64 (x7_1 - 1)),(by first|(with_reducible rfl)|(simp;done)|(simp [*];done)|rfl|(simp only [not_isEmpty_bne])),H',⟨by have:=HK1.out;omega⟩,⟨by (with_reducible repeat (first|apply zk1|apply zk2|apply zk3));exact HO173.out⟩,⟨by repeat (first|(with_reducible first|exact HK.out|apply Kept.alloc|apply Kept.drewN|apply Kept.drew)|exact HK.out)⟩,⟨by repeat (first|(with_reducible first|exact HB.out|apply zl1|apply zl2|apply zl3)|exact HB.out)⟩⟩
     ·rw [if_neg c10] at H
      exact absurd H (by simp)
    ·rw [if_neg c8] at H
     exact absurd H (by simp)
   ·rw [if_neg c6] at H
    have c6b0:decide (0≤x7_1)=false:=decide_eq_false c6
    clear c6
    obtain rfl:=Option.some.inj H
    go_wp2
    go_ret
    exact ⟨_,by first|(with_reducible rfl)|(simp only [isEmpty_bne,Bool.not_not] <;> rfl)|rfl|(simp [*,errW_none,errW_some] <;> rfl),by (with_reducible repeat (first|apply zk1|apply zk2|apply zk3));exact HO_0.out,by repeat (first|(with_reducible first|exact HB.out|apply zl1|apply zl2|apply zl3)|exact HB.out),by repeat (first|(with_reducible first|exact HK.out|apply Kept.alloc|apply Kept.drewN|apply Kept.drew)|exact HK.out)⟩

/-! ### strings_Repeat: function 26 -/
def strings_Repeat.f (a0:ByteArray) (a1:Int):Option (ByteArray):=if 0≤a1∧a1≤9223372036854775807∧(a0.size:Int) * a1≤140737488355328 then some ⟨(Lib.repeatL a0.data.toList a1.toNat).toArray⟩ else none
theorem strings_Repeat.calls (a0:ByteArray) (a1:Int) (r:ByteArray) (w:World) (h:strings_Repeat.f a0 a1=some r) :
  Calls Try.prog 26 #[.string a0,.int .i64 a1] w fun e w'=>e=.returned (.string r)∧Below w.heap.size w w':=by
 unfold strings_Repeat.f at h
 split at h
 case isFalse=>cases h
 rename_i hc
 obtain ⟨h0,h1,h2⟩:=hc
 obtain rfl:=Option.some.inj h
 obtain ⟨c,rfl⟩:∃ c:Nat,a1=(c:Int):=⟨a1.toNat,by omega⟩
 exact Any.strings_Repeat Try.lays105 Try.Builder_Extra_105 a0 c w (by omega) (Int.ofNat_le.mp (by rw [Int.natCast_mul];exact h2))

end Go.Proofs.Ytokjbncjapndgaa.PAll
