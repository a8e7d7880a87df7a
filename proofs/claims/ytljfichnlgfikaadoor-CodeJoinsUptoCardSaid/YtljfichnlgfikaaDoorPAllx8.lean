/- Printed walks of the functions that the laws reach: each function, what it computes, and that it does. No conditions. -/
import Derived.Test.YtljfichnlgfikaaDoorPAllx0
import Derived.Test.YtljfichnlgfikaaDoorPAllx3
import Derived.Test.YtljfichnlgfikaaDoorPAllx7
namespace Go.Proofs.YtljfichnlgfikaaDoor.PAll
open Go.RowKit Go.Proofs.YtljfichnlgfikaaDoor.XW Go.Proofs.YtljfichnlgfikaaDoor.XLib Go.Proofs.YtljfichnlgfikaaDoorW.PrintWords Go.Proofs.YtljfichnlgfikaaDoorW.PrintLast Go.Proofs.YtljfichnlgfikaaDoorW.PrintMore
attribute [local go_sem] max2_int min2_int max_two min_two max_three min_three max_four min_four   -- for this text's walks alone
set_option linter.unusedVariables false
set_option linter.unusedSimpArgs false

/-! ### code_put: function 18 -/
def code_put.l0:Nat→List Int→List Int→Int→Int→Int→Int→Int→Int→Int→Int→ByteArray→Option (List Int)
 | 0,_,_,_,_,_,_,_,_,_,_,_=>none
 | k + 1,x0,x24,x25,x26,x134000,x134001,x134002,x134003,x134004,x134005,x134006=>if x26 < x25 then (if 0≤x26 then (if x26 < (x24.length:Int) then (if x0.length < 140737488355328 then (code_put.l0 k (x0 ++ [(rd x24 x26) % 256]) x24 x25 (wrap64 (x26 + 1)) x134000 x134001 x134002 x134003 x134004 x134005 x134006) else (none)) else (none)) else (none)) else (if x134000=1 then (if x134004=1 then (if x0.length < 140737488355328 then ((pack_Num.f k (x0 ++ [1]) (IntKind.u64.wrap (x134005)) 8).bind fun t152=>(some t152)) else (none)) else (if x0.length < 140737488355328 then ((pack_Str.f (x0 ++ [2]) x134006).bind fun t158=>(some t158)) else (none))) else (some x0))
def code_put.f (k:Nat) (l0:List Int) (a1_0:Int) (a1_1:Int) (a1_2:Int) (a1_3:Int) (a1_4:Int) (a1_5:Int) (a1_6:ByteArray):Option (List Int):=(code_Operands.f a1_0).bind fun bt134=>(if l0.length < 140737488355328 then ((code_list.f a1_0 a1_1 a1_2 a1_3 a1_4 a1_5 a1_6).bind fun t139=>(if 0≤bt134.1 then (if bt134.1≤(t139.length:Int) then ((some (t139.take (bt134.1:Int).toNat:List Int)).bind fun y142=>(code_put.l0 k (l0 ++ [(a1_0) % 256]) y142 (y142.length:Int) 0 a1_0 a1_1 a1_2 a1_3 a1_4 a1_5 a1_6)) else (none)) else (none))) else (none))
theorem code_put.mono_l:∀ k,(∀ y0 y1 y2 y3 y4 y5 y6 y7 y8 y9 y10,LeO (code_put.l0 k y0 y1 y2 y3 y4 y5 y6 y7 y8 y9 y10) (code_put.l0 (k + 1) y0 y1 y2 y3 y4 y5 y6 y7 y8 y9 y10))
 | 0=>fun _ _ _ _ _ _ _ _ _ _ _ r h=>by simp [code_put.l0] at h
 | k + 1=>by
  have ih0:=code_put.mono_l k
  ·intro y0 y1 y2 y3 y4 y5 y6 y7 y8 y9 y10
   unfold code_put.l0
   repeat' first
   | (with_reducible exact ih0 _ _ _ _ _ _ _ _ _ _ _)
   | (with_reducible exact pack_Num.mono _ _ _ _)
   | (with_reducible exact LeO.refl _)
   | (with_reducible exact LeO.none _)
   | (with_reducible refine LeO.ite ?_ ?_)
   | (with_reducible refine LeO.bind ?_ (fun _=>?_))
   | exact ih0 _ _ _ _ _ _ _ _ _ _ _
   | exact pack_Num.mono _ _ _ _
   | exact LeO.none _
   | refine LeO.ite ?_ ?_
   | refine LeO.bind ?_ (fun _=>?_)
theorem code_put.mono:∀ a0 a1 a2 a3 a4 a5 a6 a7 k,LeO (code_put.f k a0 a1 a2 a3 a4 a5 a6 a7) (code_put.f (k + 1) a0 a1 a2 a3 a4 a5 a6 a7):=by
 intro a0 a1 a2 a3 a4 a5 a6 a7 k
 have ih0:=code_put.mono_l k
 unfold code_put.f
 repeat' first
   | (with_reducible exact ih0 _ _ _ _ _ _ _ _ _ _ _)
   | (with_reducible exact pack_Num.mono _ _ _ _)
   | (with_reducible exact LeO.refl _)
   | (with_reducible exact LeO.none _)
   | (with_reducible refine LeO.ite ?_ ?_)
   | (with_reducible refine LeO.bind ?_ (fun _=>?_))
   | exact ih0 _ _ _ _ _ _ _ _ _ _ _
   | exact pack_Num.mono _ _ _ _
   | exact LeO.none _
   | refine LeO.ite ?_ ?_
   | refine LeO.bind ?_ (fun _=>?_)
def code_put.T11:Bool × List (List Nat × List Nat):=(true,[([],[]),([],[]),([0,1],[0,1]),([],[]),([3],[3]),([4],[4]),([5],[5]),([2,6,2],[2,6]),([7,7,0,1,2,3,4,5,6,7],[7])])
def code_put.B11:List Nat:=[0,0,3,0,8,24,56,127,255]
theorem code_put.tab11:rtab .any (opsOf Tryd.f18 11)=code_put.T11:=by kernel_rfl
theorem code_put.bits11:waitsOk code_put.T11.2 code_put.B11=true:=by kernel_rfl
def code_put.T12:Bool × List (List Nat × List Nat):=(true,[([],[]),([],[]),([0,1],[0,1]),([],[]),([3],[3]),([4],[4]),([2,5,2],[2,5]),([6,6,0,1,2,3,4,5,6],[6])])
def code_put.B12:List Nat:=[0,0,3,0,8,24,63,127]
theorem code_put.tab12:rtab .any (opsOf Tryd.f18 12)=code_put.T12:=by kernel_rfl
theorem code_put.bits12:waitsOk code_put.T12.2 code_put.B12=true:=by kernel_rfl
set_option maxHeartbeats 8000000 in
set_option maxRecDepth 100000 in
theorem code_put.calls (k:Nat) (P0_:Nat→Prop) (u9000_:Value) (l0:List Int) (a1_0:Int) (a1_1:Int) (a1_2:Int) (a1_3:Int) (a1_4:Int) (a1_5:Int) (a1_6:ByteArray) (r:List Int) (w0 w:World) (hB:Below w0.heap.size w0 w) (ho0:Kd.R (Kd.int .u8) 5 w w0.heap.size P0_ u9000_ l0) (h:code_put.f k l0 a1_0 a1_1 a1_2 a1_3 a1_4 a1_5 a1_6=some r) :
  Calls Tryd.prog 18 #[u9000_,.agg #[.int .i64 a1_0,.int .i64 a1_1,.int .i64 a1_2,.int .i64 a1_3,.int .i64 a1_4,.int .i64 a1_5,.string a1_6]] w fun e w'=>∃ v0_:Value,e=.returned (v0_)∧Kd.R (Kd.int .u8) 5 w' w0.heap.size (fun k_=>(P0_ k_ ∨ w.heap.size≤k_)) v0_ r∧Below w0.heap.size w0 w'∧Kept w w' (fun k_=>P0_ k_):=by
 have hu42:=Tryd.underlying42
 have HO0:=Aside0.mk (show Kd.R (Kd.int .u8) 5 w w0.heap.size (fun k_=>(P0_ k_ ∨ w.heap.size≤k_)) u9000_ l0 from Kd.R_mono ho0 (fun k_ hk=>(.inl hk)))
 have HK:=Aside0.mk (Kept.refl w (fun k_=>P0_ k_))
 have HW0:=Aside0.mk hB.size
 have HB:=Aside0.mk hB
 clear hB
 have H:((code_Operands.f a1_0).bind fun bt134=>(if l0.length < 140737488355328 then ((code_list.f a1_0 a1_1 a1_2 a1_3 a1_4 a1_5 a1_6).bind fun t139=>(if 0≤bt134.1 then (if bt134.1≤(t139.length:Int) then ((some (t139.take (bt134.1:Int).toNat:List Int)).bind fun y142=>(code_put.l0 k (l0 ++ [(a1_0) % 256]) y142 (y142.length:Int) 0 a1_0 a1_1 a1_2 a1_3 a1_4 a1_5 a1_6)) else (none)) else (none))) else (none)))=some r:=h
 clear h
 replace H:=Option.bind_eq_some_iff.mp H
 obtain ⟨⟨t134,t135⟩,A30,H⟩:=H
 replace H:(if l0.length < 140737488355328 then ((code_list.f a1_0 a1_1 a1_2 a1_3 a1_4 a1_5 a1_6).bind fun t139=>(if 0≤t134 then (if t134≤(t139.length:Int) then ((some (t139.take (t134:Int).toNat:List Int)).bind fun y142=>(code_put.l0 k (l0 ++ [(a1_0) % 256]) y142 (y142.length:Int) 0 a1_0 a1_1 a1_2 a1_3 a1_4 a1_5 a1_6)) else (none)) else (none))) else (none))=some r:=H
 have A3:=Aside0.mk A30
 clear A30
 by_cases c4:l0.length < 140737488355328
 ·rw [if_pos c4] at H
  have LMc4:=Aside0.mk c4
  clear c4
  obtain ⟨y136,hy136⟩:∃ y_:List Int,y_=(l0 ++ [(a1_0) % 256]):=⟨_,rfl⟩
  replace H:((code_list.f a1_0 a1_1 a1_2 a1_3 a1_4 a1_5 a1_6).bind fun t139=>(if 0≤t134 then (if t134≤(t139.length:Int) then ((some (t139.take (t134:Int).toNat:List Int)).bind fun y142=>(code_put.l0 k y136 y142 (y142.length:Int) 0 a1_0 a1_1 a1_2 a1_3 a1_4 a1_5 a1_6)) else (none)) else (none)))=some r:=by first|(rw [hy136];with_reducible exact H)|(have H2_:=(Option.bind_some _ _).symm.trans H;rw [hy136];with_reducible exact H2_)|(have H2_:=(Option.bind_some _ _).symm.trans H;with_reducible exact H2_)|with_reducible exact H|(rw [hy136];exact H)|exact H
  have Ny136:=Aside0.mk hy136
  clear hy136
  replace H:=Option.bind_eq_some_iff.mp H
  obtain ⟨t139,A50,H⟩:=H
  replace H:(if 0≤t134 then (if t134≤(t139.length:Int) then ((some (t139.take (t134:Int).toNat:List Int)).bind fun y142=>(code_put.l0 k y136 y142 (y142.length:Int) 0 a1_0 a1_1 a1_2 a1_3 a1_4 a1_5 a1_6)) else (none)) else (none))=some r:=H
  have A5:=Aside0.mk A50
  clear A50
  by_cases c6:0≤t134
  ·rw [if_pos c6] at H
   have c6b0:=eq_true c6
   have c6b1:decide (0≤t134)=true:=decide_eq_true c6
   clear c6
   by_cases c7:t134≤(t139.length:Int)
   ·rw [if_pos c7] at H
    have c7b0:=eq_true c7
    have c7b1:decide (t134≤(t139.length:Int))=true:=decide_eq_true c7
    clear c7
    obtain ⟨y142,hy142⟩:∃ y_:List Int,y_=(t139.take (t134:Int).toNat):=⟨_,rfl⟩
    replace H:(code_put.l0 k y136 y142 (y142.length:Int) 0 a1_0 a1_1 a1_2 a1_3 a1_4 a1_5 a1_6)=some r:=by first|(rw [hy142];with_reducible exact H)|(have H2_:=(Option.bind_some _ _).symm.trans H;rw [hy142];with_reducible exact H2_)|(have H2_:=(Option.bind_some _ _).symm.trans H;with_reducible exact H2_)|with_reducible exact H|(rw [hy142];exact H)|exact H
    have Ny142:=Aside0.mk hy142
    clear hy142
    have H':=Aside0.mk H
    clear H
    go_enter Tryd.func18,Tryd.ntmps18
    go_wp2_with (first|((with_reducible refine gate_dst (N:=3) rfl ?_);refine box_event ?hg (N:=3) ?hd (cs:=#[.int .i64 a1_0,.int .i64 a1_1,.int .i64 a1_2,.int .i64 a1_3,.int .i64 a1_4,.int .i64 a1_5,.string a1_6]) (t:=42) ?hr ?_;(case hd=>rfl);(case hg=>rfl);(case hr=>first|(go_simp;done)|(go_simp;rfl));intro gb133 hg w8 hbox hb;replace HO0:=Aside0.mk (Kd.R_below (by (with_reducible repeat (first|apply zk1|apply zk2|apply zk3));exact HO0.out) hb);have BK133:=Aside0.mk (hbox);have GW133:=Aside0.mk ((by rw [hg];exact (by first|exact HK.out.1|exact (show Kept w _ (fun k_=>P0_ k_) from by repeat (first|(with_reducible first|exact HK.out|apply Kept.alloc|apply Kept.drewN|apply Kept.drew)|exact HK.out)).1):w.heap.size≤gb133));replace HK:=Aside0.mk (Kept.below (S:=(fun k_=>P0_ k_)) (by repeat (first|(with_reducible first|exact HK.out|apply Kept.alloc|apply Kept.drewN|apply Kept.drew)|exact HK.out)) hb);have GE133:=Aside0.mk ((by rw [hg];exact (below_size (by repeat (first|(with_reducible first|exact HB.out|apply zl1|apply zl2|apply zl3)|exact HB.out))):w0.heap.size≤gb133));replace HB:=Aside0.mk (below_step (by repeat (first|(with_reducible first|exact HB.out|apply zl1|apply zl2|apply zl3)|exact HB.out)) hb);clear hb hbox hg;obtain ⟨hcz9_0,hcz9_1,hcz9_2,hcz9_3,hcz9_4,hcz9_5,hcz9_6⟩:=zc7 BK133.out;obtain ⟨hfz9_0,hfz9_1,hfz9_2,hfz9_3,hfz9_4,hfz9_5,hfz9_6⟩:=zf7 BK133.out)|((with_reducible refine gate_callee (f:=14) rfl ?_);refine goesL_ (some 12) rfl rfl Tryd.func14 (by kernel_rfl) rfl #[.int .i64 a1_0] rfl (by (try simp only [List.map_toArray,List.map_cons,List.map_nil]);first|done|rfl|(simp only [List.length_drop,List.length_take];rfl)|(simp (disch:=omega) only [u64_in];rfl)) ?_;(with_reducible refine (code_Operands.calls a1_0 t134 t135 _ A3.out).mono ?_);rintro e w10 ⟨rfl,hb⟩;refine ⟨_,rfl,?_⟩;replace HO0:=Aside0.mk (Kd.R_below (by (with_reducible repeat (first|apply zk1|apply zk2|apply zk3));exact HO0.out) hb);replace BK133:=Aside0.mk (blk_below (g:=gb133) (o:=.cells #[.int .i64 a1_0,.int .i64 a1_1,.int .i64 a1_2,.int .i64 a1_3,.int .i64 a1_4,.int .i64 a1_5,.string a1_6] 42 (0,0)) (by (with_reducible repeat (first|apply zb1|apply zb2|apply zb3));exact BK133.out) hb);replace HK:=Aside0.mk (Kept.below (S:=(fun k_=>P0_ k_)) (by repeat (first|(with_reducible first|exact HK.out|apply Kept.alloc|apply Kept.drewN|apply Kept.drew|refine Kept.setCell ?_ (.inr GW133.out) _)|exact HK.out)) hb);replace HB:=Aside0.mk (below_step (by repeat (first|(with_reducible first|exact HB.out|apply zl1|apply zl2|apply zl3|refine below_set ?_ GE133.out)|exact HB.out)) hb);(try clear hb);obtain ⟨hcz11_0,hcz11_1,hcz11_2,hcz11_3,hcz11_4,hcz11_5,hcz11_6⟩:=zc7 BK133.out;obtain ⟨hfz11_0,hfz11_1,hfz11_2,hfz11_3,hfz11_4,hfz11_5,hfz11_6⟩:=zf7 BK133.out)|((with_reducible refine gate_builtin (b:=.append) (xs:=#[.tmp 15,.tmp 19]) rfl ?_);at_builtin;refine Kd.R_append (Kd.int .u8) (w0:=w0) w0.heap.size rfl (.tmp 15) (.tmp 19) 43 5 (.int .u8 0) 1 rfl Tryd.underlying43 info5 rfl (by decide) (by omega) u9000_ l0 ((a1_0) % 256) [.int .u8 ((a1_0) % 256)] (fun k_=>(P0_ k_ ∨ w.heap.size≤k_)) (fun _=>False) rfl rfl ?aP (fun _ hk=>hk.elim) ?aF ?aO ?aB ?aS ?aL ?_;(case aP=>exact rfl);(case aB=>exact (by repeat (first|(with_reducible first|exact HB.out|apply zl1|apply zl2|apply zl3|refine below_set ?_ GE133.out)|exact HB.out)));(case aF=>exact (fun k_ hk=>(.inr (Nat.le_trans (by first|exact HK.out.1|exact (show Kept w _ (fun k_=>P0_ k_) from by repeat (first|(with_reducible first|exact HK.out|apply Kept.alloc|apply Kept.drewN|apply Kept.drew|refine Kept.setCell ?_ (.inr GW133.out) _)|exact HK.out)).1) hk))));(case aO=>exact (by (with_reducible repeat (first|apply zk1|apply zk2|apply zk3));exact HO0.out));(case aS=>exact (below_size (by repeat (first|(with_reducible first|exact HB.out|apply zl1|apply zl2|apply zl3|refine below_set ?_ GE133.out)|exact HB.out))));(case aL=>have:=LMc4.out;omega);intro v137 w12 ho hb hg hat;rw [← Ny136.out] at ho;have n0_:=Aside0.mk (blk_grown (g:=gb133) (o:=.cells #[.int .i64 a1_0,.int .i64 a1_1,.int .i64 a1_2,.int .i64 a1_3,.int .i64 a1_4,.int .i64 a1_5,.string a1_6] 42 (0,0)) (by (with_reducible repeat (first|apply zb1|apply zb2|apply zb3));exact BK133.out) hg (Kd.R_ne HO0.out BK133.out (by decide)));have n1_:=Aside0.mk (hb);have n2_:=Aside0.mk (Kept.of_grown (S:=(fun k_=>P0_ k_)) hg (by repeat (first|(with_reducible first|exact HK.out|apply Kept.alloc|apply Kept.drewN|apply Kept.drew|refine Kept.setCell ?_ (.inr GW133.out) _)|exact HK.out)) (fun k_ e_=>(HO0.out.1 k_ e_)));have n3_:=Aside0.mk (ho);clear BK133;clear HB;clear HK;clear HO0;have BK133:=n0_;have HB:=n1_;have HK:=n2_;have HO138:=n3_;clear n0_ n1_ n2_ n3_;clear ho hb hg hat;obtain ⟨hcz13_0,hcz13_1,hcz13_2,hcz13_3,hcz13_4,hcz13_5,hcz13_6⟩:=zc7 BK133.out;obtain ⟨hfz13_0,hfz13_1,hfz13_2,hfz13_3,hfz13_4,hfz13_5,hfz13_6⟩:=zf7 BK133.out)|((with_reducible refine gate_callee (f:=29) rfl ?_);refine goesL_ (some 22) rfl rfl Tryd.func29 (by kernel_rfl) rfl #[.agg #[.int .i64 a1_0,.int .i64 a1_1,.int .i64 a1_2,.int .i64 a1_3,.int .i64 a1_4,.int .i64 a1_5,.string a1_6]] rfl (by (try simp only [List.map_toArray,List.map_cons,List.map_nil]);first|done|rfl|(simp only [List.length_drop,List.length_take];rfl)|(simp (disch:=omega) only [u64_in];rfl)) ?_;(with_reducible refine (code_list.calls a1_0 a1_1 a1_2 a1_3 a1_4 a1_5 a1_6 t139 _ A5.out).mono ?_);rintro e w14 ⟨v140,rfl,ho0,hb⟩;refine ⟨_,rfl,?_⟩;replace HO138:=Aside0.mk (Kd.R_below (by (with_reducible repeat (first|apply zk1|apply zk2|apply zk3));exact HO138.out) hb);have HO141:=Aside0.mk (Kd.R_lower (Kd.R_newM (M:=fun k_=>(P0_ k_ ∨ w.heap.size≤k_)) ho0 (by first|exact HK.out.1|exact (show Kept w _ (fun k_=>P0_ k_) from by repeat (first|(with_reducible first|exact HK.out|apply Kept.alloc|apply Kept.drewN|apply Kept.drew|refine Kept.setCell ?_ (.inr GW133.out) _)|exact HK.out)).1) (fun k_ h_=>.inr h_)) (below_size (by repeat (first|(with_reducible first|exact HB.out|apply zl1|apply zl2|apply zl3|refine below_set ?_ GE133.out)|exact HB.out))));replace BK133:=Aside0.mk (blk_below (g:=gb133) (o:=.cells #[.int .i64 a1_0,.int .i64 a1_1,.int .i64 a1_2,.int .i64 a1_3,.int .i64 a1_4,.int .i64 a1_5,.string a1_6] 42 (0,0)) (by (with_reducible repeat (first|apply zb1|apply zb2|apply zb3));exact BK133.out) hb);replace HK:=Aside0.mk (Kept.below (S:=(fun k_=>P0_ k_)) (by repeat (first|(with_reducible first|exact HK.out|apply Kept.alloc|apply Kept.drewN|apply Kept.drew|refine Kept.setCell ?_ (.inr GW133.out) _)|exact HK.out)) hb);replace HB:=Aside0.mk (below_step (by repeat (first|(with_reducible first|exact HB.out|apply zl1|apply zl2|apply zl3|refine below_set ?_ GE133.out)|exact HB.out)) hb);(try clear hb);(try clear ho0);obtain ⟨Ao15,co15,eo15⟩:=Kd.R_slice HO141.out;subst eo15;have q16:(t134:Int)≤((t139.length:Int):Int):=of_decide_eq_true (by first|(with_reducible assumption)|assumption);obtain ⟨i016,hi016,_,hsz16,_⟩:=info_parts info3;have hcut16:=cut_to (P:=Tryd.prog) 62 3 .i64 Tryd.underlying62 hi016 Ao15 t139.length co15 t134 (of_decide_eq_true (by first|(with_reducible assumption)|assumption)) q16 (Kd.R_reads' HO141.out).2.1;have hr16:=Kd.R_take (m:=(t134:Int).toNat) HO141.out (by omega);have hy16:y142.length=(t134:Int).toNat:=(by rw [Ny142.out,List.length_take];omega);rw [← Ny142.out] at hr16;rw [← hy16] at hr16 hcut16;clear hy16 hi016 hsz16 HO141;have HO144:=Aside0.mk hr16;clear hr16;replace q16:=eq_true q16))
    go_loopg [0,26] k (fun kq v0 v26 w'=>∃ (x0_1:List Int) (x26_1:Int),v26=.int .i64 x26_1∧Aside0 (code_put.l0 kq x0_1 y142 (y142.length:Int) x26_1 a1_0 a1_1 a1_2 a1_3 a1_4 a1_5 a1_6=some r)∧Aside0 (kq≤k)∧Aside0 (Kd.R (Kd.int .u8) 5 w' w0.heap.size (fun k_=>(P0_ k_ ∨ w.heap.size≤k_)) v0 x0_1)∧Aside0 (Kd.R (Kd.int .i64) 3 w' w0.heap.size (fun k_=>(P0_ k_ ∨ w.heap.size≤k_)) (.slice Ao15 y142.length co15) y142)∧Aside0 (w'.heap[gb133]?=some (.cells #[.int .i64 a1_0,.int .i64 a1_1,.int .i64 a1_2,.int .i64 a1_3,.int .i64 a1_4,.int .i64 a1_5,.string a1_6] 42 (0,0)))∧Aside0 (Kept w w' (fun k_=>P0_ k_))∧Aside0 (Below w0.heap.size w0 w'))
    case atStart=>exact ⟨(y136),(0),(by first|(with_reducible rfl)|(simp;done)|(simp [*];done)|rfl|(simp only [not_isEmpty_bne])),H',⟨Nat.le_refl _⟩,⟨by (with_reducible repeat (first|apply zk1|apply zk2|apply zk3));exact HO138.out⟩,⟨by (with_reducible repeat (first|apply zk1|apply zk2|apply zk3));exact Kd.R_mono HO144.out (fun _ hk=>hk.1)⟩,⟨by (with_reducible repeat (first|apply zb1|apply zb2|apply zb3));exact BK133.out⟩,⟨by repeat (first|(with_reducible first|exact HK.out|apply Kept.alloc|apply Kept.drewN|apply Kept.drew|refine Kept.setCell ?_ (.inr GW133.out) _)|exact HK.out)⟩,⟨by repeat (first|(with_reducible first|exact HB.out|apply zl1|apply zl2|apply zl3|refine below_set ?_ GE133.out)|exact HB.out)⟩⟩
    case round =>
     clear H'
     try clear hcz11_0 hcz11_1 hcz11_2 hcz11_3 hcz11_4 hcz11_5 hcz11_6 hcz13_0 hcz13_1 hcz13_2 hcz13_3 hcz13_4 hcz13_5 hcz13_6 hcz9_0 hcz9_1 hcz9_2
     try clear c1
     try clear q1
     try clear c2
     try clear p2
     try clear c4
     try clear c6
     try clear c6b0
     try clear c6b1
     try clear c7
     try clear c7b0
     try clear c7b1
     try clear c14
     try clear q16
     try clear hfz11_0 hfz11_1 hfz11_2 hfz11_3 hfz11_4 hfz11_5 hfz11_6 hfz13_0 hfz13_1 hfz13_2 hfz13_3 hfz13_4 hfz13_5 hfz13_6 hfz9_0 hfz9_1 hfz9_2 hfz9_3 hfz9_4 hfz9_5 hfz9_6
     try clear hcz9_3 hcz9_4 hcz9_5 hcz9_6
     try clear q16
     obtain ⟨x0_1,x26_1,rfl,HA,HK1,HO_0,HO_24,BK133,HK,HB⟩:=hrel
     cases gk with
     | zero=>exact absurd HA.out (by simp [code_put.l0])
     | succ k1 =>
      have H:=HA.out
      clear HA
      simp only [code_put.l0] at H
      by_cases c17:x26_1 < (y142.length:Int)
      ·rw [if_pos c17] at H
       have c17b0:decide (x26_1 < (y142.length:Int))=true:=decide_eq_true c17
       clear c17
       by_cases c18:0≤x26_1
       ·rw [if_pos c18] at H
        have c18b0:decide (0≤x26_1)=true:=decide_eq_true c18
        clear c18
        by_cases c19:x26_1 < (y142.length:Int)
        ·rw [if_pos c19] at H
         have c19b0:decide (x26_1 < (y142.length:Int))=true:=decide_eq_true c19
         clear c19
         by_cases c20:x0_1.length < 140737488355328
         ·rw [if_pos c20] at H
          have LMc20:=Aside0.mk c20
          clear c20
          obtain ⟨y146,hy146⟩:∃ y_:List Int,y_=(x0_1 ++ [(rd y142 x26_1) % 256]):=⟨_,rfl⟩
          replace H:(code_put.l0 k1 y146 y142 (y142.length:Int) (wrap64 (x26_1 + 1)) a1_0 a1_1 a1_2 a1_3 a1_4 a1_5 a1_6)=some r:=by first|(rw [hy146];with_reducible exact H)|(have H2_:=(Option.bind_some _ _).symm.trans H;rw [hy146];with_reducible exact H2_)|(have H2_:=(Option.bind_some _ _).symm.trans H;with_reducible exact H2_)|with_reducible exact H|(rw [hy146];exact H)|exact H
          have Ny146:=Aside0.mk hy146
          clear hy146
          have H':=Aside0.mk H
          clear H
          have p145:0≤(x26_1:Int):=of_decide_eq_true (by first|(with_reducible assumption)|assumption)
          have q145:x26_1 < (y142.length:Int):=of_decide_eq_true (by first|(with_reducible assumption)|assumption)
          obtain ⟨ad145,e145,hx145_0⟩:=Kd.at_int (Kd.R_reads' HO_24.out).2.2 x26_1 p145 q145
          cases e145
          replace p145:=eq_true p145
          replace q145:=eq_true q145
          go_wp2_with (first|((with_reducible refine gate_builtin (b:=.append) (xs:=#[.tmp 30,.tmp 33]) rfl ?_);at_builtin;refine Kd.R_append (Kd.int .u8) (w0:=w0) w0.heap.size rfl (.tmp 30) (.tmp 33) 43 5 (.int .u8 0) 1 rfl Tryd.underlying43 info5 rfl (by decide) (by omega) u0 x0_1 ((rd y142 x26_1) % 256) [.int .u8 ((rd y142 x26_1) % 256)] (fun k_=>(P0_ k_ ∨ w.heap.size≤k_)) (fun _=>False) rfl rfl ?aP (fun _ hk=>hk.elim) ?aF ?aO ?aB ?aS ?aL ?_;(case aP=>exact rfl);(case aB=>exact (by repeat (first|(with_reducible first|exact HB.out|apply zl1|apply zl2|apply zl3|refine below_set ?_ GE133.out)|exact HB.out)));(case aF=>exact (fun k_ hk=>(.inr (Nat.le_trans (by first|exact HK.out.1|exact (show Kept w _ (fun k_=>P0_ k_) from by repeat (first|(with_reducible first|exact HK.out|apply Kept.alloc|apply Kept.drewN|apply Kept.drew|refine Kept.setCell ?_ (.inr GW133.out) _)|exact HK.out)).1) hk))));(case aO=>exact (by (with_reducible repeat (first|apply zk1|apply zk2|apply zk3));exact HO_0.out));(case aS=>exact (below_size (by repeat (first|(with_reducible first|exact HB.out|apply zl1|apply zl2|apply zl3|refine below_set ?_ GE133.out)|exact HB.out))));(case aL=>have:=LMc20.out;omega);intro v147 w21 ho hb hg hat;rw [← Ny146.out] at ho;have n0_:=Aside0.mk (Kd.R_over' (by (with_reducible repeat (first|apply zk1|apply zk2|apply zk3));exact HO_24.out) (Kd.R_typed (by (with_reducible repeat (first|apply zk1|apply zk2|apply zk3));exact HO_0.out)) (by decide) hg);have n1_:=Aside0.mk (blk_grown (g:=gb133) (o:=.cells #[.int .i64 a1_0,.int .i64 a1_1,.int .i64 a1_2,.int .i64 a1_3,.int .i64 a1_4,.int .i64 a1_5,.string a1_6] 42 (0,0)) (by (with_reducible repeat (first|apply zb1|apply zb2|apply zb3));exact BK133.out) hg (Kd.R_ne HO_0.out BK133.out (by decide)));have n2_:=Aside0.mk (hb);have n3_:=Aside0.mk (Kept.of_grown (S:=(fun k_=>P0_ k_)) hg (by repeat (first|(with_reducible first|exact HK.out|apply Kept.alloc|apply Kept.drewN|apply Kept.drew|refine Kept.setCell ?_ (.inr GW133.out) _)|exact HK.out)) (fun k_ e_=>(HO_0.out.1 k_ e_)));have n4_:=Aside0.mk (ho);clear HO_24;clear BK133;clear HB;clear HK;clear HO_0;have HO_24:=n0_;have BK133:=n1_;have HB:=n2_;have HK:=n3_;have HO148:=n4_;clear n0_ n1_ n2_ n3_ n4_;clear ho hb hg hat))
          go_roundg k1
          case measure=>have:=HK1.out;omega
          case rel=>exact ⟨(y146),(wrap64 (x26_1 + 1)),(by first|(with_reducible rfl)|(simp;done)|(simp [*];done)|rfl|(simp only [not_isEmpty_bne])),H',⟨by have:=HK1.out;omega⟩,⟨by (with_reducible repeat (first|apply zk1|apply zk2|apply zk3));exact HO148.out⟩,⟨by (with_reducible repeat (first|apply zk1|apply zk2|apply zk3));exact HO_24.out⟩,⟨by (with_reducible repeat (first|apply zb1|apply zb2|apply zb3));exact BK133.out⟩,⟨by repeat (first|(with_reducible first|exact HK.out|apply Kept.alloc|apply Kept.drewN|apply Kept.drew|refine Kept.setCell ?_ (.inr GW133.out) _)|exact HK.out)⟩,⟨by repeat (first|(with_reducible first|exact HB.out|apply zl1|apply zl2|apply zl3|refine below_set ?_ GE133.out)|exact HB.out)⟩⟩
         ·rw [if_neg c20] at H
          exact absurd H (by simp)
        ·rw [if_neg c19] at H
         exact absurd H (by simp)
       ·rw [if_neg c18] at H
        exact absurd H (by simp)
      ·rw [if_neg c17] at H
       have c17b0:decide (x26_1 < (y142.length:Int))=false:=decide_eq_false c17
       clear c17
       by_cases c22:a1_0=1
       ·rw [if_pos c22] at H
        have c22b0:(a1_0 == 1)=true:=beq_iff_eq.mpr c22
        have c22b1:(a1_0 != 1)=false:=bne_eq_false_iff_eq.mpr c22
        clear c22
        by_cases c23:a1_4=1
        ·rw [if_pos c23] at H
         have c23b0:(a1_4 == 1)=true:=beq_iff_eq.mpr c23
         have c23b1:(a1_4 != 1)=false:=bne_eq_false_iff_eq.mpr c23
         clear c23
         by_cases c24:x0_1.length < 140737488355328
         ·rw [if_pos c24] at H
          have LMc24:=Aside0.mk c24
          clear c24
          obtain ⟨y149,hy149⟩:∃ y_:List Int,y_=(x0_1 ++ [1]):=⟨_,rfl⟩
          replace H:((pack_Num.f k1 y149 (IntKind.u64.wrap (a1_5)) 8).bind fun t152=>(some t152))=some r:=by first|(rw [hy149];with_reducible exact H)|(have H2_:=(Option.bind_some _ _).symm.trans H;rw [hy149];with_reducible exact H2_)|(have H2_:=(Option.bind_some _ _).symm.trans H;with_reducible exact H2_)|with_reducible exact H|(rw [hy149];exact H)|exact H
          have Ny149:=Aside0.mk hy149
          clear hy149
          replace H:=Option.bind_eq_some_iff.mp H
          obtain ⟨t152,A250,H⟩:=H
          replace H:(some t152)=some r:=H
          have A25:=Aside0.mk A250
          clear A250
          obtain rfl:=Option.some.inj H
          obtain ⟨hcz26_0,hcz26_1,hcz26_2,hcz26_3,hcz26_4,hcz26_5,hcz26_6⟩:=zc7 BK133.out
          obtain ⟨hfz26_0,hfz26_1,hfz26_2,hfz26_3,hfz26_4,hfz26_5,hfz26_6⟩:=zf7 BK133.out
          try go_wp2
          replace HO_0:=Aside0.mk (Kd.R_drew HO_0.out)
          replace HO_24:=Aside0.mk (Kd.R_drew HO_24.out)
          replace BK133:=Aside0.mk (blk_drew BK133.out)
          replace HK:=Aside0.mk (Kept.drew HK.out)
          replace HB:=Aside0.mk (below_drew1 HB.out)
          refine start_ (n:=9) (S:=fun w'=>w'.cell? ⟨gb133,0,none⟩=some (.int .i64 a1_0)∧w'.cell? ⟨gb133,1,none⟩=some (.int .i64 a1_1)∧w'.cell? ⟨gb133,2,none⟩=some (.int .i64 a1_2)∧w'.cell? ⟨gb133,3,none⟩=some (.int .i64 a1_3)∧w'.cell? ⟨gb133,4,none⟩=some (.int .i64 a1_4)∧w'.cell? ⟨gb133,5,none⟩=some (.int .i64 a1_5)∧w'.cell? ⟨gb133,6,none⟩=some (.string a1_6)) (ds:=[]) #[false,false,false,false,false,false,false,false,false] (by kernel_rfl) rfl rfl ⟨(blk_cell BK133.out 0).trans rfl,(blk_cell BK133.out 1).trans rfl,(blk_cell BK133.out 2).trans rfl,(blk_cell BK133.out 3).trans rfl,(blk_cell BK133.out 4).trans rfl,(blk_cell BK133.out 5).trans rfl,(blk_cell BK133.out 6).trans rfl⟩ (fun hHeld=>?_);refine with_tabW code_put.tab11 code_put.bits11 (fun HT_ HW_=>?_)
          generalize wr.drew=w27 at HO_0 HO_24 BK133 HK HB hHeld ⊢
          refine pure_ (i:=0) (N:=some 46) (v:=?_) (a':=?_) #[true,false,false,false,false,false,false,false,false] rfl rfl (any_of HT_.out (by kernel_rfl)) (fun _ _ _ h=>h) (Or.inl ⟨by rfl,?_⟩) ?_ ?_
          rotate_left
          ·intro w'
           go_simp
           with_reducible rfl
          rotate_left
          ·simp only [Act.put,List.setIfInBounds_toArray,List.set_cons_zero,List.set_cons_succ,i64_w,i32_w]
           rfl
          refine pure_ (i:=3) (N:=some 49) (v:=?_) (a':=?_) #[true,false,false,true,false,false,false,false,false] rfl rfl (any_of HT_.out (by kernel_rfl)) (fun _ _ _ h=>h) (Or.inl ⟨by rfl,?_⟩) ?_ ?_
          rotate_left
          ·intro w'
           go_simp
           with_reducible rfl
          rotate_left
          ·simp only [Act.put,List.setIfInBounds_toArray,List.set_cons_zero,List.set_cons_succ,i64_w,i32_w]
           rfl
          refine pure_ (i:=4) (N:=some 50) (v:=?_) (a':=?_) #[true,false,false,true,true,false,false,false,false] rfl rfl (any_of HT_.out (by kernel_rfl)) (fun _ _ _ h=>h) (Or.inl ⟨by rfl,?_⟩) ?_ ?_
          rotate_left
          ·intro w'
           go_simp
           with_reducible rfl
          rotate_left
          ·simp only [Act.put,List.setIfInBounds_toArray,List.set_cons_zero,List.set_cons_succ,i64_w,i32_w]
           rfl
          refine take_ (i:=5) (N:=some 51) (v:=?_) (a':=?_) #[true,false,false,true,true,true,false,false,false] rfl rfl (take_ofW HT_.out HW_.out (by kernel_rfl)) (fun _ _ _ h=>h) (Or.inl ⟨by rfl,?_⟩) hHeld ?_ ?_
          rotate_left
          ·rintro w' ⟨s0,s1,s2,s3,s4,s5,s6⟩
           go_simp
           with_reducible rfl
          rotate_left
          ·simp only [Act.put,List.setIfInBounds_toArray,List.set_cons_zero,List.set_cons_succ,i64_w,i32_w]
           rfl
          refine pure_ (i:=6) (N:=some 52) (v:=?_) (a':=?_) #[true,false,false,true,true,true,true,false,false] rfl rfl (any_of HT_.out (by kernel_rfl)) (fun _ _ _ h=>h) (Or.inl ⟨by rfl,?_⟩) ?_ ?_
          rotate_left
          ·intro w'
           go_simp
           with_reducible rfl
          rotate_left
          ·simp only [Act.put,List.setIfInBounds_toArray,List.set_cons_zero,List.set_cons_succ,i64_w,i32_w]
           rfl
          refine one_ (i:=1) (N:=some 47) #[true,true,false,true,true,true,true,false,false] rfl rfl (one_of HT_.out (by kernel_rfl)) (by decide) (fun K hK=>?_)
          refine value_ (w1:=?_) (v:=?_) (by rfl) rfl ?_ ?_
          rotate_left 2
          ·go_simp
           constructor
           ·rfl
           ·rfl
          refine hK.out _ _ ⟨(blk_cell (blk_alloc BK133.out _) 0).trans rfl,(blk_cell (blk_alloc BK133.out _) 1).trans rfl,(blk_cell (blk_alloc BK133.out _) 2).trans rfl,(blk_cell (blk_alloc BK133.out _) 3).trans rfl,(blk_cell (blk_alloc BK133.out _) 4).trans rfl,(blk_cell (blk_alloc BK133.out _) 5).trans rfl,(blk_cell (blk_alloc BK133.out _) 6).trans rfl⟩ (fun hHeld=>?_)
          clear hK K
          refine norm_ (a':=?_) ?_ ?_
          rotate_left
          ·show Act.put _ (some 47) _=_
           simp only [Act.put,List.setIfInBounds_toArray,List.set_cons_zero,List.set_cons_succ,i64_w,i32_w]
           rfl
          refine one_ (i:=2) (N:=some 48) #[true,true,true,true,true,true,true,false,false] rfl rfl (one_of HT_.out (by kernel_rfl)) (by decide) (fun K hK=>?_)
          refine Kd.R_append_step (Kd.int .u8) (w0:=w0) w0.heap.size (by rfl) (.tmp 46) (.tmp 47) 43 5 (.int .u8 0) 1 rfl Tryd.underlying43 info5 rfl (by decide) (by omega) u0 x0_1 1 [.int .u8 1] (fun k_=>(P0_ k_ ∨ w.heap.size≤k_)) (fun _=>False) rfl rfl ?aP (fun _ hk=>hk.elim) ?aF ?aO ?aB ?aS ?aL ?_
          (case aP=>exact rfl)
          (case aB=>exact (by repeat (first|(with_reducible first|exact HB.out|apply zl1|apply zl2|apply zl3|refine below_set ?_ GE133.out)|exact HB.out)))
          (case aF=>exact (fun k_ hk=>(.inr (Nat.le_trans (by first|exact HK.out.1|exact (show Kept w _ (fun k_=>P0_ k_) from by repeat (first|(with_reducible first|exact HK.out|apply Kept.alloc|apply Kept.drewN|apply Kept.drew|refine Kept.setCell ?_ (.inr GW133.out) _)|exact HK.out)).1) hk))))
          (case aO=>exact (by (with_reducible repeat (first|apply zk1|apply zk2|apply zk3));exact HO_0.out))
          (case aS=>exact (below_size (by repeat (first|(with_reducible first|exact HB.out|apply zl1|apply zl2|apply zl3|refine below_set ?_ GE133.out)|exact HB.out))))
          (case aL=>have:=LMc24.out;omega)
          intro v150 w28 ho hb hg hat
          rw [← Ny149.out] at ho
          have n0_:=Aside0.mk (Kd.R_over' (by (with_reducible repeat (first|apply zk1|apply zk2|apply zk3));exact HO_24.out) (Kd.R_typed (by (with_reducible repeat (first|apply zk1|apply zk2|apply zk3));exact HO_0.out)) (by decide) hg)
          have n1_:=Aside0.mk (blk_grown (g:=gb133) (o:=.cells #[.int .i64 a1_0,.int .i64 a1_1,.int .i64 a1_2,.int .i64 a1_3,.int .i64 a1_4,.int .i64 a1_5,.string a1_6] 42 (0,0)) (by (with_reducible repeat (first|apply zb1|apply zb2|apply zb3));exact BK133.out) hg (Kd.R_ne HO_0.out BK133.out (by decide)))
          have n2_:=Aside0.mk (hb)
          have n3_:=Aside0.mk (Kept.of_grown (S:=(fun k_=>P0_ k_)) hg (by repeat (first|(with_reducible first|exact HK.out|apply Kept.alloc|apply Kept.drewN|apply Kept.drew|refine Kept.setCell ?_ (.inr GW133.out) _)|exact HK.out)) (fun k_ e_=>(HO_0.out.1 k_ e_)))
          have n4_:=Aside0.mk (ho)
          clear HO_24
          clear BK133
          clear HB
          clear HK
          clear HO_0
          have HO_24:=n0_
          have BK133:=n1_
          have HB:=n2_
          have HK:=n3_
          have HO151:=n4_
          clear n0_ n1_ n2_ n3_ n4_
          clear ho hb hg hat
          obtain ⟨Ao29,co29,eo29⟩:=Kd.R_slice HO151.out
          (first|subst eo29|(injection eo29 with f1_ f2_ f3_;have f4_:=f1_.symm;have f5_:=f3_.symm;clear f1_ f2_ f3_;subst f4_;subst f5_))
          refine hK.out _ _ ⟨(blk_cell BK133.out 0).trans rfl,(blk_cell BK133.out 1).trans rfl,(blk_cell BK133.out 2).trans rfl,(blk_cell BK133.out 3).trans rfl,(blk_cell BK133.out 4).trans rfl,(blk_cell BK133.out 5).trans rfl,(blk_cell BK133.out 6).trans rfl⟩ (fun hHeld=>?_)
          clear hK K
          refine norm_ (a':=?_) ?_ ?_
          rotate_left
          ·show Act.put _ (some 48) _=_
           simp only [Act.put,List.setIfInBounds_toArray,List.set_cons_zero,List.set_cons_succ,i64_w,i32_w]
           rfl
          refine one_ (i:=7) (N:=some 53) #[true,true,true,true,true,true,true,true,false] rfl rfl (one_of HT_.out (by kernel_rfl)) (by decide) (fun K hK=>?_)
          refine goes_ Tryd.func32 (by kernel_rfl) rfl #[.slice Ao29 y149.length co29,.int .u64 (IntKind.u64.wrap (a1_5)),.int .i64 8] (by rfl) rfl rfl (by (try simp only [List.map_toArray,List.map_cons,List.map_nil]);first|done|rfl|(simp only [List.length_drop,List.length_take];rfl)|(simp (disch:=omega) only [u64_in];rfl)) ?_
          with_reducible refine (pack_Num.calls k1 (fun k_=>some k_=(.slice Ao29 y149.length co29:Value).ownBlock) (.slice Ao29 y149.length co29) y149 (IntKind.u64.wrap (a1_5)) 8 t152 w0 _ ?side1 ?side2 A25.out).mono ?_
          (case side1=>repeat (first|(with_reducible first|exact HB.out|apply zl1|apply zl2|apply zl3|refine below_set ?_ GE133.out)|exact HB.out))
          (case side2=>exact Kd.R_tight rfl HO151.out)
          rintro e w30 ⟨v153,rfl,ho0,hb,hkp⟩
          refine ⟨_,rfl,?_⟩
          have n0_:=Aside0.mk (Kd.R_mono (ok':=fun k_=>(P0_ k_ ∨ w.heap.size≤k_)) (Kd.R_keptB ((Kd.R_apart' HO_24.out (Kd.R_typed HO151.out) (by decide))) hkp (fun k_ hk_ hs_=>(hk_.2) hs_)) (fun k_ hk_=>hk_.1.1))
          have n1_:=Aside0.mk (blk_kept (by (with_reducible repeat (first|apply zb1|apply zb2|apply zb3));exact BK133.out) hkp (fun hs_=>(fun e_=>(Kd.R_ne HO151.out BK133.out (by decide)) e_) hs_))
          have n2_:=Aside0.mk (Kd.R_mono (ok':=fun k_=>(P0_ k_ ∨ w.heap.size≤k_)) ho0 (fun k_ hk_=>Or.elim hk_ (fun hs_=>(HO151.out.1 k_ (hs_).symm)) (fun hn_=>(.inr (Nat.le_trans (by first|exact HK.out.1|exact (show Kept w _ (fun k_=>P0_ k_) from by repeat (first|(with_reducible first|exact HK.out|apply Kept.alloc|apply Kept.drewN|apply Kept.drew|refine Kept.setCell ?_ (.inr GW133.out) _)|exact HK.out)).1) hn_)))))
          have n3_:=Aside0.mk (Kept.then_ (S:=(fun k_=>P0_ k_)) (by repeat (first|(with_reducible first|exact HK.out|apply Kept.alloc|apply Kept.drewN|apply Kept.drew|refine Kept.setCell ?_ (.inr GW133.out) _)|exact HK.out)) hkp (fun k_ hs_=>(fun e_=>(HO151.out.1 k_ e_.symm)) hs_))
          have n4_:=Aside0.mk (hb)
          clear HO_24
          clear BK133
          clear HK
          clear HB
          clear HO151
          have HO_24:=n0_
          have BK133:=n1_
          have HO154:=n2_
          have HK:=n3_
          have HB:=n4_
          clear n0_ n1_ n2_ n3_ n4_
          (try clear hb)
          (try clear hkp)
          (try clear ho0)
          refine hK.out _ _ ⟨(blk_cell BK133.out 0).trans rfl,(blk_cell BK133.out 1).trans rfl,(blk_cell BK133.out 2).trans rfl,(blk_cell BK133.out 3).trans rfl,(blk_cell BK133.out 4).trans rfl,(blk_cell BK133.out 5).trans rfl,(blk_cell BK133.out 6).trans rfl⟩ (fun hHeld=>?_)
          clear hK K
          refine norm_ (a':=?_) ?_ ?_
          rotate_left
          ·show Act.put _ (some 53) _=_
           simp only [Act.put,List.setIfInBounds_toArray,List.set_cons_zero,List.set_cons_succ,i64_w,i32_w]
           rfl
          refine pure_ (i:=8) (N:=some 4) (v:=?_) (a':=?_) #[true,true,true,true,true,true,true,true,true] rfl rfl (any_of HT_.out (by kernel_rfl)) (fun _ _ _ h=>h) (Or.inl ⟨by rfl,?_⟩) ?_ ?_
          rotate_left
          ·intro w'
           go_simp
           with_reducible rfl
          rotate_left
          ·simp only [Act.put,List.setIfInBounds_toArray,List.set_cons_zero,List.set_cons_succ,i64_w,i32_w]
           rfl
          refine done_ (done_of HT_.out (by kernel_rfl)) ?_
          try go_wp2
          go_ret
          exact ⟨_,by first|(with_reducible rfl)|(simp only [isEmpty_bne,Bool.not_not] <;> rfl)|rfl|(simp [*,errW_none,errW_some] <;> rfl),by (with_reducible repeat (first|apply zk1|apply zk2|apply zk3));exact HO154.out,by repeat (first|(with_reducible first|exact HB.out|apply zl1|apply zl2|apply zl3|refine below_set ?_ GE133.out)|exact HB.out),by repeat (first|(with_reducible first|exact HK.out|apply Kept.alloc|apply Kept.drewN|apply Kept.drew|refine Kept.setCell ?_ (.inr GW133.out) _)|exact HK.out)⟩
         ·rw [if_neg c24] at H
          exact absurd H (by simp)
        ·rw [if_neg c23] at H
         have c23b0:(a1_4 == 1)=false:=beq_eq_false_iff_ne.mpr c23
         have c23b1:(a1_4 != 1)=true:=bne_iff_ne.mpr c23
         by_cases c31:x0_1.length < 140737488355328
         ·rw [if_pos c31] at H
          have LMc31:=Aside0.mk c31
          clear c31
          obtain ⟨y155,hy155⟩:∃ y_:List Int,y_=(x0_1 ++ [2]):=⟨_,rfl⟩
          replace H:((pack_Str.f y155 a1_6).bind fun t158=>(some t158))=some r:=by first|(rw [hy155];with_reducible exact H)|(have H2_:=(Option.bind_some _ _).symm.trans H;rw [hy155];with_reducible exact H2_)|(have H2_:=(Option.bind_some _ _).symm.trans H;with_reducible exact H2_)|with_reducible exact H|(rw [hy155];exact H)|exact H
          have Ny155:=Aside0.mk hy155
          clear hy155
          replace H:=Option.bind_eq_some_iff.mp H
          obtain ⟨t158,A320,H⟩:=H
          replace H:(some t158)=some r:=H
          have A32:=Aside0.mk A320
          clear A320
          obtain rfl:=Option.some.inj H
          obtain ⟨hcz33_0,hcz33_1,hcz33_2,hcz33_3,hcz33_4,hcz33_5,hcz33_6⟩:=zc7 BK133.out
          obtain ⟨hfz33_0,hfz33_1,hfz33_2,hfz33_3,hfz33_4,hfz33_5,hfz33_6⟩:=zf7 BK133.out
          try go_wp2
          replace HO_0:=Aside0.mk (Kd.R_drew HO_0.out)
          replace HO_24:=Aside0.mk (Kd.R_drew HO_24.out)
          replace BK133:=Aside0.mk (blk_drew BK133.out)
          replace HK:=Aside0.mk (Kept.drew HK.out)
          replace HB:=Aside0.mk (below_drew1 HB.out)
          refine start_ (n:=8) (S:=fun w'=>w'.cell? ⟨gb133,0,none⟩=some (.int .i64 a1_0)∧w'.cell? ⟨gb133,1,none⟩=some (.int .i64 a1_1)∧w'.cell? ⟨gb133,2,none⟩=some (.int .i64 a1_2)∧w'.cell? ⟨gb133,3,none⟩=some (.int .i64 a1_3)∧w'.cell? ⟨gb133,4,none⟩=some (.int .i64 a1_4)∧w'.cell? ⟨gb133,5,none⟩=some (.int .i64 a1_5)∧w'.cell? ⟨gb133,6,none⟩=some (.string a1_6)) (ds:=[]) #[false,false,false,false,false,false,false,false] (by kernel_rfl) rfl rfl ⟨(blk_cell BK133.out 0).trans rfl,(blk_cell BK133.out 1).trans rfl,(blk_cell BK133.out 2).trans rfl,(blk_cell BK133.out 3).trans rfl,(blk_cell BK133.out 4).trans rfl,(blk_cell BK133.out 5).trans rfl,(blk_cell BK133.out 6).trans rfl⟩ (fun hHeld=>?_);refine with_tabW code_put.tab12 code_put.bits12 (fun HT_ HW_=>?_)
          generalize wr.drew=w34 at HO_0 HO_24 BK133 HK HB hHeld ⊢
          refine pure_ (i:=0) (N:=some 54) (v:=?_) (a':=?_) #[true,false,false,false,false,false,false,false] rfl rfl (any_of HT_.out (by kernel_rfl)) (fun _ _ _ h=>h) (Or.inl ⟨by rfl,?_⟩) ?_ ?_
          rotate_left
          ·intro w'
           go_simp
           with_reducible rfl
          rotate_left
          ·simp only [Act.put,List.setIfInBounds_toArray,List.set_cons_zero,List.set_cons_succ,i64_w,i32_w]
           rfl
          refine pure_ (i:=3) (N:=some 57) (v:=?_) (a':=?_) #[true,false,false,true,false,false,false,false] rfl rfl (any_of HT_.out (by kernel_rfl)) (fun _ _ _ h=>h) (Or.inl ⟨by rfl,?_⟩) ?_ ?_
          rotate_left
          ·intro w'
           go_simp
           with_reducible rfl
          rotate_left
          ·simp only [Act.put,List.setIfInBounds_toArray,List.set_cons_zero,List.set_cons_succ,i64_w,i32_w]
           rfl
          refine pure_ (i:=4) (N:=some 58) (v:=?_) (a':=?_) #[true,false,false,true,true,false,false,false] rfl rfl (any_of HT_.out (by kernel_rfl)) (fun _ _ _ h=>h) (Or.inl ⟨by rfl,?_⟩) ?_ ?_
          rotate_left
          ·intro w'
           go_simp
           with_reducible rfl
          rotate_left
          ·simp only [Act.put,List.setIfInBounds_toArray,List.set_cons_zero,List.set_cons_succ,i64_w,i32_w]
           rfl
          refine take_ (i:=5) (N:=some 59) (v:=?_) (a':=?_) #[true,false,false,true,true,true,false,false] rfl rfl (take_ofW HT_.out HW_.out (by kernel_rfl)) (fun _ _ _ h=>h) (Or.inl ⟨by rfl,?_⟩) hHeld ?_ ?_
          rotate_left
          ·rintro w' ⟨s0,s1,s2,s3,s4,s5,s6⟩
           go_simp
           with_reducible rfl
          rotate_left
          ·simp only [Act.put,List.setIfInBounds_toArray,List.set_cons_zero,List.set_cons_succ,i64_w,i32_w]
           rfl
          refine one_ (i:=1) (N:=some 55) #[true,true,false,true,true,true,false,false] rfl rfl (one_of HT_.out (by kernel_rfl)) (by decide) (fun K hK=>?_)
          refine value_ (w1:=?_) (v:=?_) (by rfl) rfl ?_ ?_
          rotate_left 2
          ·go_simp
           constructor
           ·rfl
           ·rfl
          refine hK.out _ _ ⟨(blk_cell (blk_alloc BK133.out _) 0).trans rfl,(blk_cell (blk_alloc BK133.out _) 1).trans rfl,(blk_cell (blk_alloc BK133.out _) 2).trans rfl,(blk_cell (blk_alloc BK133.out _) 3).trans rfl,(blk_cell (blk_alloc BK133.out _) 4).trans rfl,(blk_cell (blk_alloc BK133.out _) 5).trans rfl,(blk_cell (blk_alloc BK133.out _) 6).trans rfl⟩ (fun hHeld=>?_)
          clear hK K
          refine norm_ (a':=?_) ?_ ?_
          rotate_left
          ·show Act.put _ (some 55) _=_
           simp only [Act.put,List.setIfInBounds_toArray,List.set_cons_zero,List.set_cons_succ,i64_w,i32_w]
           rfl
          refine one_ (i:=2) (N:=some 56) #[true,true,true,true,true,true,false,false] rfl rfl (one_of HT_.out (by kernel_rfl)) (by decide) (fun K hK=>?_)
          refine Kd.R_append_step (Kd.int .u8) (w0:=w0) w0.heap.size (by rfl) (.tmp 54) (.tmp 55) 43 5 (.int .u8 0) 1 rfl Tryd.underlying43 info5 rfl (by decide) (by omega) u0 x0_1 2 [.int .u8 2] (fun k_=>(P0_ k_ ∨ w.heap.size≤k_)) (fun _=>False) rfl rfl ?aP (fun _ hk=>hk.elim) ?aF ?aO ?aB ?aS ?aL ?_
          (case aP=>exact rfl)
          (case aB=>exact (by repeat (first|(with_reducible first|exact HB.out|apply zl1|apply zl2|apply zl3|refine below_set ?_ GE133.out)|exact HB.out)))
          (case aF=>exact (fun k_ hk=>(.inr (Nat.le_trans (by first|exact HK.out.1|exact (show Kept w _ (fun k_=>P0_ k_) from by repeat (first|(with_reducible first|exact HK.out|apply Kept.alloc|apply Kept.drewN|apply Kept.drew|refine Kept.setCell ?_ (.inr GW133.out) _)|exact HK.out)).1) hk))))
          (case aO=>exact (by (with_reducible repeat (first|apply zk1|apply zk2|apply zk3));exact HO_0.out))
          (case aS=>exact (below_size (by repeat (first|(with_reducible first|exact HB.out|apply zl1|apply zl2|apply zl3|refine below_set ?_ GE133.out)|exact HB.out))))
          (case aL=>have:=LMc31.out;omega)
          intro v156 w35 ho hb hg hat
          rw [← Ny155.out] at ho
          have n0_:=Aside0.mk (Kd.R_over' (by (with_reducible repeat (first|apply zk1|apply zk2|apply zk3));exact HO_24.out) (Kd.R_typed (by (with_reducible repeat (first|apply zk1|apply zk2|apply zk3));exact HO_0.out)) (by decide) hg)
          have n1_:=Aside0.mk (blk_grown (g:=gb133) (o:=.cells #[.int .i64 a1_0,.int .i64 a1_1,.int .i64 a1_2,.int .i64 a1_3,.int .i64 a1_4,.int .i64 a1_5,.string a1_6] 42 (0,0)) (by (with_reducible repeat (first|apply zb1|apply zb2|apply zb3));exact BK133.out) hg (Kd.R_ne HO_0.out BK133.out (by decide)))
          have n2_:=Aside0.mk (hb)
          have n3_:=Aside0.mk (Kept.of_grown (S:=(fun k_=>P0_ k_)) hg (by repeat (first|(with_reducible first|exact HK.out|apply Kept.alloc|apply Kept.drewN|apply Kept.drew|refine Kept.setCell ?_ (.inr GW133.out) _)|exact HK.out)) (fun k_ e_=>(HO_0.out.1 k_ e_)))
          have n4_:=Aside0.mk (ho)
          clear HO_24
          clear BK133
          clear HB
          clear HK
          clear HO_0
          have HO_24:=n0_
          have BK133:=n1_
          have HB:=n2_
          have HK:=n3_
          have HO157:=n4_
          clear n0_ n1_ n2_ n3_ n4_
          clear ho hb hg hat
          obtain ⟨Ao36,co36,eo36⟩:=Kd.R_slice HO157.out
          (first|subst eo36|(injection eo36 with f1_ f2_ f3_;have f4_:=f1_.symm;have f5_:=f3_.symm;clear f1_ f2_ f3_;subst f4_;subst f5_))
          refine hK.out _ _ ⟨(blk_cell BK133.out 0).trans rfl,(blk_cell BK133.out 1).trans rfl,(blk_cell BK133.out 2).trans rfl,(blk_cell BK133.out 3).trans rfl,(blk_cell BK133.out 4).trans rfl,(blk_cell BK133.out 5).trans rfl,(blk_cell BK133.out 6).trans rfl⟩ (fun hHeld=>?_)
          clear hK K
          refine norm_ (a':=?_) ?_ ?_
          rotate_left
          ·show Act.put _ (some 56) _=_
           simp only [Act.put,List.setIfInBounds_toArray,List.set_cons_zero,List.set_cons_succ,i64_w,i32_w]
           rfl
          refine one_ (i:=6) (N:=some 60) #[true,true,true,true,true,true,true,false] rfl rfl (one_of HT_.out (by kernel_rfl)) (by decide) (fun K hK=>?_)
          refine goes_ Tryd.func33 (by kernel_rfl) rfl #[.slice Ao36 y155.length co36,.string a1_6] (by rfl) rfl rfl (by (try simp only [List.map_toArray,List.map_cons,List.map_nil]);first|done|rfl|(simp only [List.length_drop,List.length_take];rfl)|(simp (disch:=omega) only [u64_in];rfl)) ?_
          with_reducible refine (pack_Str.calls (fun k_=>some k_=(.slice Ao36 y155.length co36:Value).ownBlock) (.slice Ao36 y155.length co36) y155 a1_6 t158 w0 _ ?side1 ?side2 A32.out).mono ?_
          (case side1=>repeat (first|(with_reducible first|exact HB.out|apply zl1|apply zl2|apply zl3|refine below_set ?_ GE133.out)|exact HB.out))
          (case side2=>exact Kd.R_tight rfl HO157.out)
          rintro e w37 ⟨v159,rfl,ho0,hb,hkp⟩
          refine ⟨_,rfl,?_⟩
          have n0_:=Aside0.mk (Kd.R_mono (ok':=fun k_=>(P0_ k_ ∨ w.heap.size≤k_)) (Kd.R_keptB ((Kd.R_apart' HO_24.out (Kd.R_typed HO157.out) (by decide))) hkp (fun k_ hk_ hs_=>(hk_.2) hs_)) (fun k_ hk_=>hk_.1.1))
          have n1_:=Aside0.mk (blk_kept (by (with_reducible repeat (first|apply zb1|apply zb2|apply zb3));exact BK133.out) hkp (fun hs_=>(fun e_=>(Kd.R_ne HO157.out BK133.out (by decide)) e_) hs_))
          have n2_:=Aside0.mk (Kd.R_mono (ok':=fun k_=>(P0_ k_ ∨ w.heap.size≤k_)) ho0 (fun k_ hk_=>Or.elim hk_ (fun hs_=>(HO157.out.1 k_ (hs_).symm)) (fun hn_=>(.inr (Nat.le_trans (by first|exact HK.out.1|exact (show Kept w _ (fun k_=>P0_ k_) from by repeat (first|(with_reducible first|exact HK.out|apply Kept.alloc|apply Kept.drewN|apply Kept.drew|refine Kept.setCell ?_ (.inr GW133.out) _)|exact HK.out)).1) hn_)))))
          have n3_:=Aside0.mk (Kept.then_ (S:=(fun k_=>P0_ k_)) (by repeat (first|(with_reducible first|exact HK.out|apply Kept.alloc|apply Kept.drewN|apply Kept.drew|refine Kept.setCell ?_ (.inr GW133.out) _)|exact HK.out)) hkp (fun k_ hs_=>(fun e_=>(HO157.out.1 k_ e_.symm)) hs_))
          have n4_:=Aside0.mk (hb)
          clear HO_24
          clear BK133
          clear HK
          clear HB
          clear HO157
          have HO_24:=n0_
          have BK133:=n1_
          have HO160:=n2_
          have HK:=n3_
          have HB:=n4_
          clear n0_ n1_ n2_ n3_ n4_
          (try clear hb)
          (try clear hkp)
          (try clear ho0)
          refine hK.out _ _ ⟨(blk_cell BK133.out 0).trans rfl,(blk_cell BK133.out 1).trans rfl,(blk_cell BK133.out 2).trans rfl,(blk_cell BK133.out 3).trans rfl,(blk_cell BK133.out 4).trans rfl,(blk_cell BK133.out 5).trans rfl,(blk_cell BK133.out 6).trans rfl⟩ (fun hHeld=>?_)
          clear hK K
          refine norm_ (a':=?_) ?_ ?_
          rotate_left
          ·show Act.put _ (some 60) _=_
           simp only [Act.put,List.setIfInBounds_toArray,List.set_cons_zero,List.set_cons_succ,i64_w,i32_w]
           rfl
          refine pure_ (i:=7) (N:=some 4) (v:=?_) (a':=?_) #[true,true,true,true,true,true,true,true] rfl rfl (any_of HT_.out (by kernel_rfl)) (fun _ _ _ h=>h) (Or.inl ⟨by rfl,?_⟩) ?_ ?_
          rotate_left
          ·intro w'
           go_simp
           with_reducible rfl
          rotate_left
          ·simp only [Act.put,List.setIfInBounds_toArray,List.set_cons_zero,List.set_cons_succ,i64_w,i32_w]
           rfl
          refine done_ (done_of HT_.out (by kernel_rfl)) ?_
          try go_wp2
          go_ret
          exact ⟨_,by first|(with_reducible rfl)|(simp only [isEmpty_bne,Bool.not_not] <;> rfl)|rfl|(simp [*,errW_none,errW_some] <;> rfl),by (with_reducible repeat (first|apply zk1|apply zk2|apply zk3));exact HO160.out,by repeat (first|(with_reducible first|exact HB.out|apply zl1|apply zl2|apply zl3|refine below_set ?_ GE133.out)|exact HB.out),by repeat (first|(with_reducible first|exact HK.out|apply Kept.alloc|apply Kept.drewN|apply Kept.drew|refine Kept.setCell ?_ (.inr GW133.out) _)|exact HK.out)⟩
         ·rw [if_neg c31] at H
          exact absurd H (by simp)
       ·rw [if_neg c22] at H
        have c22b0:(a1_0 == 1)=false:=beq_eq_false_iff_ne.mpr c22
        have c22b1:(a1_0 != 1)=true:=bne_iff_ne.mpr c22
        obtain rfl:=Option.some.inj H
        obtain ⟨hcz38_0,hcz38_1,hcz38_2,hcz38_3,hcz38_4,hcz38_5,hcz38_6⟩:=zc7 BK133.out
        obtain ⟨hfz38_0,hfz38_1,hfz38_2,hfz38_3,hfz38_4,hfz38_5,hfz38_6⟩:=zf7 BK133.out
        go_wp2
        go_ret
        exact ⟨_,by first|(with_reducible rfl)|(simp only [isEmpty_bne,Bool.not_not] <;> rfl)|rfl|(simp [*,errW_none,errW_some] <;> rfl),by (with_reducible repeat (first|apply zk1|apply zk2|apply zk3));exact HO_0.out,by repeat (first|(with_reducible first|exact HB.out|apply zl1|apply zl2|apply zl3|refine below_set ?_ GE133.out)|exact HB.out),by repeat (first|(with_reducible first|exact HK.out|apply Kept.alloc|apply Kept.drewN|apply Kept.drew|refine Kept.setCell ?_ (.inr GW133.out) _)|exact HK.out)⟩
   ·rw [if_neg c7] at H
    exact absurd H (by simp)
  ·rw [if_neg c6] at H
   exact absurd H (by simp)
 ·rw [if_neg c4] at H
  exact absurd H (by simp)

end Go.Proofs.YtljfichnlgfikaaDoor.PAll
