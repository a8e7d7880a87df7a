/- Printed walks of the functions that the laws reach: each function, what it computes, and that it does. No conditions. -/
import Derived.Test.YtljfichnlgfikaaDoorPAllx0
namespace Go.Proofs.YtljfichnlgfikaaDoor.PAll
open Go.RowKit Go.Proofs.YtljfichnlgfikaaDoor.XW Go.Proofs.YtljfichnlgfikaaDoor.XLib Go.Proofs.YtljfichnlgfikaaDoorW.PrintWords Go.Proofs.YtljfichnlgfikaaDoorW.PrintLast Go.Proofs.YtljfichnlgfikaaDoorW.PrintMore
attribute [local go_sem] max2_int min2_int max_two min_two max_three min_three max_four min_four   -- for this text's walks alone
set_option linter.unusedVariables false
set_option linter.unusedSimpArgs false

/-! ### pack_Str: function 33 -/
def pack_Str.f (l0:List Int) (a1:ByteArray):Option (List Int):=if 0≤(mn (a1.size:Int) 255) then (if (mn (a1.size:Int) 255)≤(a1.size:Int) then (if l0.length < 140737488355328 then ((some (l0 ++ [(((a1.extract 0 ((mn (a1.size:Int) 255):Int).toNat).size:Int)) % 256]:List Int)).bind fun y127=>(if y127.length + (a1.extract 0 ((mn (a1.size:Int) 255):Int).toNat).size < 140737488355328 then (some (y127 ++ bytesOf (a1.extract 0 ((mn (a1.size:Int) 255):Int).toNat))) else (none))) else (none)) else (none)) else (none)
set_option maxHeartbeats 8000000 in
set_option maxRecDepth 100000 in
theorem pack_Str.calls (P0_:Nat→Prop) (u9000_:Value) (l0:List Int) (a1:ByteArray) (r:List Int) (w0 w:World) (hB:Below w0.heap.size w0 w) (ho0:Kd.R (Kd.int .u8) 5 w w0.heap.size P0_ u9000_ l0) (h:pack_Str.f l0 a1=some r) :
  Calls Tryd.prog 33 #[u9000_,.string a1] w fun e w'=>∃ v0_:Value,e=.returned (v0_)∧Kd.R (Kd.int .u8) 5 w' w0.heap.size (fun k_=>(P0_ k_ ∨ w.heap.size≤k_)) v0_ r∧Below w0.heap.size w0 w'∧Kept w w' (fun k_=>P0_ k_):=by
 have HO0:=Aside0.mk (show Kd.R (Kd.int .u8) 5 w w0.heap.size (fun k_=>(P0_ k_ ∨ w.heap.size≤k_)) u9000_ l0 from Kd.R_mono ho0 (fun k_ hk=>(.inl hk)))
 have HK:=Aside0.mk (Kept.refl w (fun k_=>P0_ k_))
 have HW0:=Aside0.mk hB.size
 have HB:=Aside0.mk hB
 clear hB
 have H:(if 0≤(mn (a1.size:Int) 255) then (if (mn (a1.size:Int) 255)≤(a1.size:Int) then (if l0.length < 140737488355328 then ((some (l0 ++ [(((a1.extract 0 ((mn (a1.size:Int) 255):Int).toNat).size:Int)) % 256]:List Int)).bind fun y127=>(if y127.length + (a1.extract 0 ((mn (a1.size:Int) 255):Int).toNat).size < 140737488355328 then (some (y127 ++ bytesOf (a1.extract 0 ((mn (a1.size:Int) 255):Int).toNat))) else (none))) else (none)) else (none)) else (none))=some r:=h
 clear h
 obtain ⟨ji3,hji3⟩:∃ j_:Int,(mn (a1.size:Int) 255)=j_:=⟨_,rfl⟩
 replace H:(if 0≤(ji3) then (if (ji3)≤(a1.size:Int) then (if l0.length < 140737488355328 then ((some (l0 ++ [(((a1.extract 0 ((ji3):Int).toNat).size:Int)) % 256]:List Int)).bind fun y127=>(if y127.length + (a1.extract 0 ((ji3):Int).toNat).size < 140737488355328 then (some (y127 ++ bytesOf (a1.extract 0 ((ji3):Int).toNat))) else (none))) else (none)) else (none)) else (none))=some r:=by first|(rw [hji3] at H;exact H)|(simp only [hji3] at H ⊢;exact H)
 (try (have hji3h:ji3≤255:=by (rw [← hji3];unfold mn;(repeat' split) <;> omega)))
 (try (have hji3g:ji3≤64:=by omega))
 (try (have hji3l:0≤ji3:=by (rw [← hji3];unfold mn;(repeat' split) <;> omega)))
 (try (have hji3m:0≤ji3:=by omega))
 have hji3_:(if 255 < (a1.size:Int) then 255 else (a1.size:Int))=ji3:=hji3
 by_cases c4:0≤(ji3)
 ·rw [if_pos c4] at H
  have c4b0:=eq_true c4
  have c4b1:decide (0≤(ji3))=true:=decide_eq_true c4
  clear c4
  by_cases c5:(ji3)≤(a1.size:Int)
  ·rw [if_pos c5] at H
   have c5b0:=eq_true c5
   have c5b1:decide ((ji3)≤(a1.size:Int))=true:=decide_eq_true c5
   clear c5
   by_cases c6:l0.length < 140737488355328
   ·rw [if_pos c6] at H
    have LMc6:=Aside0.mk c6
    clear c6
    obtain ⟨y127,hy127⟩:∃ y_:List Int,y_=(l0 ++ [(((a1.extract 0 ((ji3):Int).toNat).size:Int)) % 256]):=⟨_,rfl⟩
    replace H:(if y127.length + (a1.extract 0 ((ji3):Int).toNat).size < 140737488355328 then (some (y127 ++ bytesOf (a1.extract 0 ((ji3):Int).toNat))) else (none))=some r:=by first|(rw [hy127];with_reducible exact H)|(have H2_:=(Option.bind_some _ _).symm.trans H;rw [hy127];with_reducible exact H2_)|(have H2_:=(Option.bind_some _ _).symm.trans H;with_reducible exact H2_)|with_reducible exact H|(rw [hy127];exact H)|exact H
    have Ny127:=Aside0.mk hy127
    clear hy127
    by_cases c7:y127.length + (a1.extract 0 ((ji3):Int).toNat).size < 140737488355328
    ·rw [if_pos c7] at H
     have LMc7:=Aside0.mk c7
     clear c7
     obtain ⟨y130,hy130⟩:∃ y_:List Int,y_=(y127 ++ bytesOf (a1.extract 0 ((ji3):Int).toNat)):=⟨_,rfl⟩
     replace H:(some y130)=some r:=by first|(rw [hy130];with_reducible exact H)|(have H2_:=(Option.bind_some _ _).symm.trans H;rw [hy130];with_reducible exact H2_)|(have H2_:=(Option.bind_some _ _).symm.trans H;with_reducible exact H2_)|with_reducible exact H|(rw [hy130];exact H)|exact H
     have Ny130:=Aside0.mk hy130
     clear hy130
     obtain rfl:=Option.some.inj H
     have hmx_:(((a1.extract 0 (ji3).toNat).size:Int)) % 256=max ji3 0:=by
      have h1_:0≤ji3:=by first|assumption|omega
      have h2_:ji3≤(a1.size:Int):=by first|assumption|(apply of_decide_eq_true;assumption)|omega
      rw [ByteArray.size_extract];omega
     go_enter Tryd.func33,Tryd.ntmps33
     go_wp2_with (first|((with_reducible refine gate_builtin (b:=.append) (xs:=#[.tmp 10,.tmp 14]) rfl ?_);at_builtin;refine Kd.R_append (Kd.int .u8) (w0:=w0) w0.heap.size rfl (.tmp 10) (.tmp 14) 43 5 (.int .u8 0) 1 rfl Tryd.underlying43 info5 rfl (by decide) (by omega) u9000_ l0 (max ji3 0) [.int .u8 (max ji3 0)] (fun k_=>(P0_ k_ ∨ w.heap.size≤k_)) (fun _=>False) rfl rfl ?aP (fun _ hk=>hk.elim) ?aF ?aO ?aB ?aS ?aL ?_;(case aP=>exact rfl);(case aB=>exact (by repeat (first|(with_reducible first|exact HB.out|apply zl1|apply zl2|apply zl3)|exact HB.out)));(case aF=>exact (fun k_ hk=>(.inr (Nat.le_trans (by first|exact HK.out.1|exact (show Kept w _ (fun k_=>P0_ k_) from by repeat (first|(with_reducible first|exact HK.out|apply Kept.alloc|apply Kept.drewN|apply Kept.drew)|exact HK.out)).1) hk))));(case aO=>exact (by (with_reducible repeat (first|apply zk1|apply zk2|apply zk3));exact HO0.out));(case aS=>exact (below_size (by repeat (first|(with_reducible first|exact HB.out|apply zl1|apply zl2|apply zl3)|exact HB.out))));(case aL=>have:=LMc6.out;omega);intro v128 w8 ho hb hg hat;rw [← hmx_,← Ny127.out] at ho;have n0_:=Aside0.mk (hb);have n1_:=Aside0.mk (Kept.of_grown (S:=(fun k_=>P0_ k_)) hg (by repeat (first|(with_reducible first|exact HK.out|apply Kept.alloc|apply Kept.drewN|apply Kept.drew)|exact HK.out)) (fun k_ e_=>(HO0.out.1 k_ e_)));have n2_:=Aside0.mk (ho);clear HB;clear HK;clear HO0;have HB:=n0_;have HK:=n1_;have HO129:=n2_;clear n0_ n1_ n2_;clear ho hb hg hat)|(at_builtin;refine R_strP (w0:=w0) w0.heap.size rfl (.tmp 15) _ 43 9 5 rfl Tryd.underlying43 Tryd.underlying9 info5 v128 y127 (a1.extract 0 ((ji3):Int).toNat) (fun k_=>(P0_ k_ ∨ w.heap.size≤k_)) rfl rfl ?aF ?aO ?aB ?aS ?aL ?_;(case aB=>exact (by repeat (first|(with_reducible first|exact HB.out|apply zl1|apply zl2|apply zl3)|exact HB.out)));(case aF=>exact (fun k_ hk=>(.inr (Nat.le_trans (by first|exact HK.out.1|exact (show Kept w _ (fun k_=>P0_ k_) from by repeat (first|(with_reducible first|exact HK.out|apply Kept.alloc|apply Kept.drewN|apply Kept.drew)|exact HK.out)).1) hk))));(case aO=>exact (by (with_reducible repeat (first|apply zk1|apply zk2|apply zk3));exact HO129.out));(case aS=>exact (below_size (by repeat (first|(with_reducible first|exact HB.out|apply zl1|apply zl2|apply zl3)|exact HB.out))));(case aL=>have:=LMc7.out;omega);intro v131 w9 ho hb hg hat;rw [← Ny130.out] at ho;have n0_:=Aside0.mk (hb);have n1_:=Aside0.mk (Kept.of_grown (S:=(fun k_=>P0_ k_)) hg (by repeat (first|(with_reducible first|exact HK.out|apply Kept.alloc|apply Kept.drewN|apply Kept.drew)|exact HK.out)) (fun k_ e_=>(HO129.out.1 k_ e_)));have n2_:=Aside0.mk (ho);clear HB;clear HK;clear HO129;have HB:=n0_;have HK:=n1_;have HO132:=n2_;clear n0_ n1_ n2_;clear ho hb hg hat))
     go_ret
     exact ⟨_,by first|(with_reducible rfl)|(simp only [isEmpty_bne,Bool.not_not] <;> with_reducible rfl)|(simp [errW_none,errW_some] <;> with_reducible rfl)|(simp only [isEmpty_bne,Bool.not_not] <;> rfl)|rfl|(simp [errW_none,errW_some] <;> rfl)|(simp only [← hji3];first|rfl|(simp [errW_none,errW_some] <;> rfl))|(simp [*,errW_none,errW_some] <;> rfl),by (with_reducible repeat (first|apply zk1|apply zk2|apply zk3));exact HO132.out,by repeat (first|(with_reducible first|exact HB.out|apply zl1|apply zl2|apply zl3)|exact HB.out),by repeat (first|(with_reducible first|exact HK.out|apply Kept.alloc|apply Kept.drewN|apply Kept.drew)|exact HK.out)⟩
    ·rw [if_neg c7] at H
     exact absurd H (by simp)
   ·rw [if_neg c6] at H
    exact absurd H (by simp)
  ·rw [if_neg c5] at H
   exact absurd H (by simp)
 ·rw [if_neg c4] at H
  exact absurd H (by simp)

end Go.Proofs.YtljfichnlgfikaaDoor.PAll
