/- Printed walks of the functions that the laws reach: each function, what it computes, and that it does. No conditions. -/
import Derived.Test.YtokjbncjapndgaaPAllx0
import Derived.Test.YtokjbncjapndgaaPAllx4
import Derived.Test.YtokjbncjapndgaaPAllx5
import Derived.Test.YtokjbncjapndgaaPAllx6
import Derived.Test.YtokjbncjapndgaaPAllx7
namespace Go.Proofs.Ytokjbncjapndgaa.PAll
open Go.RowKit Go.Proofs.Ytokjbncjapndgaa.XW Go.Proofs.Ytokjbncjapndgaa.XLib Go.Proofs.YtokjbncjapndgaaW.PrintWords Go.Proofs.YtokjbncjapndgaaW.PrintLast Go.Proofs.YtokjbncjapndgaaW.PrintMore
attribute [local go_sem] max2_int min2_int max_two min_two max_three min_three max_four min_four   -- for this text's walks alone
set_option linter.unusedVariables false
set_option linter.unusedSimpArgs false

/-! ### node_right: function 23 -/
def node_right.f (k:Nat) (a0_0:Bool) (l0_1:List (S43)) (l0_2:List ByteArray) (l0_3:List Int):Option (Bool):=if a0_0=true then (if (wrap64 ((l0_2.length:Int) + (l0_3.length:Int)))=0 then ((node_keys.f k a0_0 l0_1 l0_2 l0_3).bind fun t151=>((node_rising.f k t151).bind fun t154=>(if t154=true then ((slices_ContainsFunc_at_node_right_1.f k l0_1).bind fun t155=>(some (!t155))) else (some false)))) else (some false)) else (if (l0_1.length:Int)=0 then (if (l0_3.length:Int)=(wrap64 ((l0_2.length:Int) + 1)) then ((node_rising.f k l0_2).bind fun t156=>(if t156=true then ((slices_ContainsFunc_at_node_right_2.f k l0_3).bind fun t157=>(some (!t157))) else (some false))) else (some false)) else (some false))
theorem node_right.mono:∀ a0 a1 a2 a3 k,LeO (node_right.f k a0 a1 a2 a3) (node_right.f (k + 1) a0 a1 a2 a3):=by
 intro a0 a1 a2 a3 k
 unfold node_right.f
 repeat' first
   | (with_reducible exact node_keys.mono _ _ _ _ _)
   | (with_reducible exact node_rising.mono _ _)
   | (with_reducible exact slices_ContainsFunc_at_node_right_1.mono _ _)
   | (with_reducible exact slices_ContainsFunc_at_node_right_2.mono _ _)
   | (with_reducible exact LeO.refl _)
   | (with_reducible exact LeO.none _)
   | (with_reducible refine LeO.ite ?_ ?_)
   | (with_reducible refine LeO.bind ?_ (fun _=>?_))
   | exact node_keys.mono _ _ _ _ _
   | exact node_rising.mono _ _
   | exact slices_ContainsFunc_at_node_right_1.mono _ _
   | exact slices_ContainsFunc_at_node_right_2.mono _ _
   | exact LeO.none _
   | refine LeO.ite ?_ ?_
   | refine LeO.bind ?_ (fun _=>?_)
set_option maxHeartbeats 8000000 in
set_option maxRecDepth 100000 in
theorem node_right.calls (k:Nat) (a0_0:Bool) (A0_1:Option Addr) (c0_1:Nat) (l0_1:List (S43)) (A0_2:Option Addr) (c0_2:Nat) (l0_2:List ByteArray) (A0_3:Option Addr) (c0_3:Nat) (l0_3:List Int) (r:Bool) (w:World) (hr0_1:Kd.C k43 w A0_1 l0_1.length l0_1) (hc0_1:l0_1.length≤c0_1) (hr0_2:Kd.C Kd.string w A0_2 l0_2.length l0_2) (hc0_2:l0_2.length≤c0_2) (hr0_3:Kd.C (Kd.int .i64) w A0_3 l0_3.length l0_3) (hc0_3:l0_3.length≤c0_3) (h:node_right.f k a0_0 l0_1 l0_2 l0_3=some r) :
  Calls Try.prog 23 #[.agg #[.bool a0_0,.slice A0_1 l0_1.length c0_1,.slice A0_2 l0_2.length c0_2,.slice A0_3 l0_3.length c0_3]] w fun e w'=>e=.returned (.bool r)∧Below w.heap.size w w':=by
 have hu26:=Try.underlying26
 have HR0_1:=Aside0.mk hr0_1
 have HC0_1:=Aside0.mk hc0_1
 clear hr0_1 hc0_1
 have HR0_2:=Aside0.mk hr0_2
 have HC0_2:=Aside0.mk hc0_2
 clear hr0_2 hc0_2
 have HR0_3:=Aside0.mk hr0_3
 have HC0_3:=Aside0.mk hc0_3
 clear hr0_3 hc0_3
 have HB:=Aside0.mk (Below.refl w.heap.size w)
 have H:(if a0_0=true then (if (wrap64 ((l0_2.length:Int) + (l0_3.length:Int)))=0 then ((node_keys.f k a0_0 l0_1 l0_2 l0_3).bind fun t151=>((node_rising.f k t151).bind fun t154=>(if t154=true then ((slices_ContainsFunc_at_node_right_1.f k l0_1).bind fun t155=>(some (!t155))) else (some false)))) else (some false)) else (if (l0_1.length:Int)=0 then (if (l0_3.length:Int)=(wrap64 ((l0_2.length:Int) + 1)) then ((node_rising.f k l0_2).bind fun t156=>(if t156=true then ((slices_ContainsFunc_at_node_right_2.f k l0_3).bind fun t157=>(some (!t157))) else (some false))) else (some false)) else (some false)))=some r:=h
 clear h
 by_cases c2:a0_0=true
 ·subst c2
  have H1:(if (wrap64 ((l0_2.length:Int) + (l0_3.length:Int)))=0 then ((node_keys.f k true l0_1 l0_2 l0_3).bind fun t151=>((node_rising.f k t151).bind fun t154=>(if t154=true then ((slices_ContainsFunc_at_node_right_1.f k l0_1).bind fun t155=>(some (!t155))) else (some false)))) else (some false))=some r:=by rw [if_pos rfl] at H;exact H
  clear H
  have H:=H1
  clear H1
  by_cases c3:(wrap64 ((l0_2.length:Int) + (l0_3.length:Int)))=0
  ·rw [if_pos c3] at H
   have c3b0:((wrap64 ((l0_2.length:Int) + (l0_3.length:Int))) == 0)=true:=beq_iff_eq.mpr c3
   have c3b1:((wrap64 ((l0_2.length:Int) + (l0_3.length:Int))) != 0)=false:=bne_eq_false_iff_eq.mpr c3
   clear c3
   replace H:=Option.bind_eq_some_iff.mp H
   obtain ⟨t151,A40,H⟩:=H
   replace H:((node_rising.f k t151).bind fun t154=>(if t154=true then ((slices_ContainsFunc_at_node_right_1.f k l0_1).bind fun t155=>(some (!t155))) else (some false)))=some r:=H
   have A4:=Aside0.mk A40
   clear A40
   replace H:=Option.bind_eq_some_iff.mp H
   obtain ⟨t154,A50,H⟩:=H
   replace H:(if t154=true then ((slices_ContainsFunc_at_node_right_1.f k l0_1).bind fun t155=>(some (!t155))) else (some false))=some r:=H
   have A5:=Aside0.mk A50
   clear A50
   by_cases c6:t154=true
   ·subst c6
    have H1:((slices_ContainsFunc_at_node_right_1.f k l0_1).bind fun t155=>(some (!t155)))=some r:=by rw [if_pos rfl] at H;exact H
    clear H
    have H:=H1
    clear H1
    replace H:=Option.bind_eq_some_iff.mp H
    obtain ⟨t155,A70,H⟩:=H
    replace H:(some (!t155))=some r:=H
    have A7:=Aside0.mk A70
    clear A70
    obtain rfl:=Option.some.inj H
    go_enter Try.func23,Try.ntmps23
    go_wp2_with (first|((with_reducible refine gate_dst (N:=1) rfl ?_);(try (refine gate_guard (by rfl) ?_;dsimp only));refine box_event ?hg (N:=1) ?hd (cs:=#[.bool true,.slice A0_1 l0_1.length c0_1,.slice A0_2 l0_2.length c0_2,.slice A0_3 l0_3.length c0_3]) (t:=26) ?hr ?_;(case hd=>rfl);(case hg=>rfl);(case hr=>first|(go_simp;done)|(go_simp;rfl));intro gb150 hg w8 hbox hb;have BK150:=Aside0.mk (hbox);have GW150:=Aside0.mk ((by rw [hg];exact (below_size (by repeat (first|(with_reducible first|exact HB.out|apply zl1|apply zl2|apply zl3)|exact HB.out))):w.heap.size≤gb150));have GE150:=Aside0.mk ((by rw [hg];exact (below_size (by repeat (first|(with_reducible first|exact HB.out|apply zl1|apply zl2|apply zl3)|exact HB.out))):w.heap.size≤gb150));replace HB:=Aside0.mk (below_step (by repeat (first|(with_reducible first|exact HB.out|apply zl1|apply zl2|apply zl3)|exact HB.out)) hb);clear hb hbox hg;obtain ⟨hcz9_0,hcz9_1,hcz9_2,hcz9_3⟩:=zc4 BK150.out;obtain ⟨hfz9_0,hfz9_1,hfz9_2,hfz9_3⟩:=zf4 BK150.out)|(go_at_call 44;(with_reducible refine (node_keys.calls k true _ _ l0_1 _ _ l0_2 _ _ l0_3 t151 _ ?side1 ?side2 ?side3 ?side4 ?side5 ?side6 A4.out).mono ?_);(case side1=>repeat (first|exact (Kd.C_below HR0_1.out HB.out)|(with_reducible refine Kd.C_alloc ?_ _)|(with_reducible refine Kd.C_drewN ?_ _)|(with_reducible refine Kd.C_drew ?_)));(case side2=>exact HC0_1.out);(case side3=>repeat (first|exact (Kd.C_below HR0_2.out HB.out)|(with_reducible refine Kd.C_alloc ?_ _)|(with_reducible refine Kd.C_drewN ?_ _)|(with_reducible refine Kd.C_drew ?_)));(case side4=>exact HC0_2.out);(case side5=>repeat (first|exact (Kd.C_below HR0_3.out HB.out)|(with_reducible refine Kd.C_alloc ?_ _)|(with_reducible refine Kd.C_drewN ?_ _)|(with_reducible refine Kd.C_drew ?_)));(case side6=>exact HC0_3.out);rintro e w10 ⟨v152,rfl,ho0,hb⟩;have HO153:=Aside0.mk (Kd.R_lower ho0 (below_size (by repeat (first|(with_reducible first|exact HB.out|apply zl1|apply zl2|apply zl3|refine below_set ?_ GE150.out)|exact HB.out))));replace BK150:=Aside0.mk (blk_below (g:=gb150) (o:=.cells #[.bool true,.slice A0_1 l0_1.length c0_1,.slice A0_2 l0_2.length c0_2,.slice A0_3 l0_3.length c0_3] 26 (0,0)) (by (with_reducible repeat (first|apply zb1|apply zb2|apply zb3));exact BK150.out) hb);replace HB:=Aside0.mk (below_step (by repeat (first|(with_reducible first|exact HB.out|apply zl1|apply zl2|apply zl3|refine below_set ?_ GE150.out)|exact HB.out)) hb);(try clear hb);(try clear ho0);obtain ⟨Ao11,co11,eo11⟩:=Kd.R_slice HO153.out;subst eo11)|(go_at_call 43;(with_reducible refine (node_rising.calls k _ _ t151 true _ ?side1 ?side2 A5.out).mono ?_);(case side1=>repeat (first|exact (Kd.R_reads' HO153.out).2.2|(with_reducible refine Kd.C_alloc ?_ _)|(with_reducible refine Kd.C_drewN ?_ _)|(with_reducible refine Kd.C_drew ?_)));(case side2=>exact (Kd.R_reads' HO153.out).2.1);rintro e w' ⟨rfl,⟨nd,rfl⟩⟩;obtain ⟨hcz12_0,hcz12_1,hcz12_2,hcz12_3⟩:=zc4 BK150.out;obtain ⟨hfz12_0,hfz12_1,hfz12_2,hfz12_3⟩:=zf4 BK150.out)|(go_at_call 45;(with_reducible refine (slices_ContainsFunc_at_node_right_1.calls k _ _ l0_1 t155 _ ?side1 ?side2 A7.out).mono ?_);(case side1=>repeat (first|exact (Kd.C_below HR0_1.out (by repeat (first|(with_reducible first|exact HB.out|apply zl1|apply zl2|apply zl3|refine below_set ?_ GE150.out)|exact HB.out)))|(with_reducible refine Kd.C_alloc ?_ _)|(with_reducible refine Kd.C_drewN ?_ _)|(with_reducible refine Kd.C_drew ?_)));(case side2=>exact HC0_1.out);rintro e w13 ⟨rfl,hb⟩;replace HO153:=Aside0.mk (Kd.R_below (by (with_reducible repeat (first|apply zk1|apply zk2|apply zk3));exact HO153.out) hb);replace BK150:=Aside0.mk (blk_below (g:=gb150) (o:=.cells #[.bool true,.slice A0_1 l0_1.length c0_1,.slice A0_2 l0_2.length c0_2,.slice A0_3 l0_3.length c0_3] 26 (0,0)) (by (with_reducible repeat (first|apply zb1|apply zb2|apply zb3));exact BK150.out) hb);replace HB:=Aside0.mk (below_step (by repeat (first|(with_reducible first|exact HB.out|apply zl1|apply zl2|apply zl3|refine below_set ?_ GE150.out)|exact HB.out)) hb);(try clear hb)))
    go_ret
    exact ⟨by first|(with_reducible rfl)|(simp only [isEmpty_bne,Bool.not_not] <;> rfl)|rfl|(simp [*,errW_none,errW_some] <;> rfl),by repeat (first|(with_reducible first|exact HB.out|apply zl1|apply zl2|apply zl3|refine below_set ?_ GE150.out)|exact HB.out)⟩
   ·replace c6:=Bool.eq_false_iff.mpr c6
    subst c6
    have H1:(some false)=some r:=by rw [if_neg (show ¬ (false=true) by decide)] at H;exact H
    clear H
    have H:=H1
    clear H1
    obtain rfl:=Option.some.inj H
    go_enter Try.func23,Try.ntmps23
    go_wp2_with (first|((with_reducible refine gate_dst (N:=1) rfl ?_);(try (refine gate_guard (by rfl) ?_;dsimp only));refine box_event ?hg (N:=1) ?hd (cs:=#[.bool true,.slice A0_1 l0_1.length c0_1,.slice A0_2 l0_2.length c0_2,.slice A0_3 l0_3.length c0_3]) (t:=26) ?hr ?_;(case hd=>rfl);(case hg=>rfl);(case hr=>first|(go_simp;done)|(go_simp;rfl));intro gb150 hg w14 hbox hb;have BK150:=Aside0.mk (hbox);have GW150:=Aside0.mk ((by rw [hg];exact (below_size (by repeat (first|(with_reducible first|exact HB.out|apply zl1|apply zl2|apply zl3)|exact HB.out))):w.heap.size≤gb150));have GE150:=Aside0.mk ((by rw [hg];exact (below_size (by repeat (first|(with_reducible first|exact HB.out|apply zl1|apply zl2|apply zl3)|exact HB.out))):w.heap.size≤gb150));replace HB:=Aside0.mk (below_step (by repeat (first|(with_reducible first|exact HB.out|apply zl1|apply zl2|apply zl3)|exact HB.out)) hb);clear hb hbox hg;obtain ⟨hcz15_0,hcz15_1,hcz15_2,hcz15_3⟩:=zc4 BK150.out;obtain ⟨hfz15_0,hfz15_1,hfz15_2,hfz15_3⟩:=zf4 BK150.out)|(go_at_call 44;(with_reducible refine (node_keys.calls k true _ _ l0_1 _ _ l0_2 _ _ l0_3 t151 _ ?side1 ?side2 ?side3 ?side4 ?side5 ?side6 A4.out).mono ?_);(case side1=>repeat (first|exact (Kd.C_below HR0_1.out HB.out)|(with_reducible refine Kd.C_alloc ?_ _)|(with_reducible refine Kd.C_drewN ?_ _)|(with_reducible refine Kd.C_drew ?_)));(case side2=>exact HC0_1.out);(case side3=>repeat (first|exact (Kd.C_below HR0_2.out HB.out)|(with_reducible refine Kd.C_alloc ?_ _)|(with_reducible refine Kd.C_drewN ?_ _)|(with_reducible refine Kd.C_drew ?_)));(case side4=>exact HC0_2.out);(case side5=>repeat (first|exact (Kd.C_below HR0_3.out HB.out)|(with_reducible refine Kd.C_alloc ?_ _)|(with_reducible refine Kd.C_drewN ?_ _)|(with_reducible refine Kd.C_drew ?_)));(case side6=>exact HC0_3.out);rintro e w16 ⟨v152,rfl,ho0,hb⟩;have HO153:=Aside0.mk (Kd.R_lower ho0 (below_size (by repeat (first|(with_reducible first|exact HB.out|apply zl1|apply zl2|apply zl3|refine below_set ?_ GE150.out)|exact HB.out))));replace BK150:=Aside0.mk (blk_below (g:=gb150) (o:=.cells #[.bool true,.slice A0_1 l0_1.length c0_1,.slice A0_2 l0_2.length c0_2,.slice A0_3 l0_3.length c0_3] 26 (0,0)) (by (with_reducible repeat (first|apply zb1|apply zb2|apply zb3));exact BK150.out) hb);replace HB:=Aside0.mk (below_step (by repeat (first|(with_reducible first|exact HB.out|apply zl1|apply zl2|apply zl3|refine below_set ?_ GE150.out)|exact HB.out)) hb);(try clear hb);(try clear ho0);obtain ⟨Ao17,co17,eo17⟩:=Kd.R_slice HO153.out;subst eo17)|(go_at_call 43;(with_reducible refine (node_rising.calls k _ _ t151 false _ ?side1 ?side2 A5.out).mono ?_);(case side1=>repeat (first|exact (Kd.R_reads' HO153.out).2.2|(with_reducible refine Kd.C_alloc ?_ _)|(with_reducible refine Kd.C_drewN ?_ _)|(with_reducible refine Kd.C_drew ?_)));(case side2=>exact (Kd.R_reads' HO153.out).2.1);rintro e w' ⟨rfl,⟨nd,rfl⟩⟩))
    go_ret
    exact ⟨by first|(with_reducible rfl)|(simp only [isEmpty_bne,Bool.not_not] <;> rfl)|rfl|(simp [*,errW_none,errW_some] <;> rfl),by repeat (first|(with_reducible first|exact HB.out|apply zl1|apply zl2|apply zl3|refine below_set ?_ GE150.out)|exact HB.out)⟩
  ·rw [if_neg c3] at H
   have c3b0:((wrap64 ((l0_2.length:Int) + (l0_3.length:Int))) == 0)=false:=beq_eq_false_iff_ne.mpr c3
   have c3b1:((wrap64 ((l0_2.length:Int) + (l0_3.length:Int))) != 0)=true:=bne_iff_ne.mpr c3
   obtain rfl:=Option.some.inj H
   go_enter Try.func23,Try.ntmps23
   go_wp2_with (first|((with_reducible refine gate_dst (N:=1) rfl ?_);(try (refine gate_guard (by rfl) ?_;dsimp only));refine box_event ?hg (N:=1) ?hd (cs:=#[.bool true,.slice A0_1 l0_1.length c0_1,.slice A0_2 l0_2.length c0_2,.slice A0_3 l0_3.length c0_3]) (t:=26) ?hr ?_;(case hd=>rfl);(case hg=>rfl);(case hr=>first|(go_simp;done)|(go_simp;rfl));intro gb150 hg w18 hbox hb;have BK150:=Aside0.mk (hbox);have GW150:=Aside0.mk ((by rw [hg];exact (below_size (by repeat (first|(with_reducible first|exact HB.out|apply zl1|apply zl2|apply zl3)|exact HB.out))):w.heap.size≤gb150));have GE150:=Aside0.mk ((by rw [hg];exact (below_size (by repeat (first|(with_reducible first|exact HB.out|apply zl1|apply zl2|apply zl3)|exact HB.out))):w.heap.size≤gb150));replace HB:=Aside0.mk (below_step (by repeat (first|(with_reducible first|exact HB.out|apply zl1|apply zl2|apply zl3)|exact HB.out)) hb);clear hb hbox hg;obtain ⟨hcz19_0,hcz19_1,hcz19_2,hcz19_3⟩:=zc4 BK150.out;obtain ⟨hfz19_0,hfz19_1,hfz19_2,hfz19_3⟩:=zf4 BK150.out))
   go_ret
   exact ⟨by first|(with_reducible rfl)|(simp only [isEmpty_bne,Bool.not_not] <;> rfl)|rfl|(simp [*,errW_none,errW_some] <;> rfl),by repeat (first|(with_reducible first|exact HB.out|apply zl1|apply zl2|apply zl3|refine below_set ?_ GE150.out)|exact HB.out)⟩
 ·replace c2:=Bool.eq_false_iff.mpr c2
  subst c2
  have H1:(if (l0_1.length:Int)=0 then (if (l0_3.length:Int)=(wrap64 ((l0_2.length:Int) + 1)) then ((node_rising.f k l0_2).bind fun t156=>(if t156=true then ((slices_ContainsFunc_at_node_right_2.f k l0_3).bind fun t157=>(some (!t157))) else (some false))) else (some false)) else (some false))=some r:=by rw [if_neg (show ¬ (false=true) by decide)] at H;exact H
  clear H
  have H:=H1
  clear H1
  by_cases c20:(l0_1.length:Int)=0
  ·rw [if_pos c20] at H
   have c20b0:((l0_1.length:Int) == 0)=true:=beq_iff_eq.mpr c20
   have c20b1:((l0_1.length:Int) != 0)=false:=bne_eq_false_iff_eq.mpr c20
   clear c20
   by_cases c21:(l0_3.length:Int)=(wrap64 ((l0_2.length:Int) + 1))
   ·rw [if_pos c21] at H
    have c21b0:((l0_3.length:Int) == (wrap64 ((l0_2.length:Int) + 1)))=true:=beq_iff_eq.mpr c21
    have c21b1:((l0_3.length:Int) != (wrap64 ((l0_2.length:Int) + 1)))=false:=bne_eq_false_iff_eq.mpr c21
    clear c21
    replace H:=Option.bind_eq_some_iff.mp H
    obtain ⟨t156,A220,H⟩:=H
    replace H:(if t156=true then ((slices_ContainsFunc_at_node_right_2.f k l0_3).bind fun t157=>(some (!t157))) else (some false))=some r:=H
    have A22:=Aside0.mk A220
    clear A220
    by_cases c23:t156=true
    ·subst c23
     have H1:((slices_ContainsFunc_at_node_right_2.f k l0_3).bind fun t157=>(some (!t157)))=some r:=by rw [if_pos rfl] at H;exact H
     clear H
     have H:=H1
     clear H1
     replace H:=Option.bind_eq_some_iff.mp H
     obtain ⟨t157,A240,H⟩:=H
     replace H:(some (!t157))=some r:=H
     have A24:=Aside0.mk A240
     clear A240
     obtain rfl:=Option.some.inj H
     go_enter Try.func23,Try.ntmps23
     go_wp2_with (first|((with_reducible refine gate_dst (N:=1) rfl ?_);(try (refine gate_guard (by rfl) ?_;dsimp only));refine box_event ?hg (N:=1) ?hd (cs:=#[.bool false,.slice A0_1 l0_1.length c0_1,.slice A0_2 l0_2.length c0_2,.slice A0_3 l0_3.length c0_3]) (t:=26) ?hr ?_;(case hd=>rfl);(case hg=>rfl);(case hr=>first|(go_simp;done)|(go_simp;rfl));intro gb150 hg w25 hbox hb;have BK150:=Aside0.mk (hbox);have GW150:=Aside0.mk ((by rw [hg];exact (below_size (by repeat (first|(with_reducible first|exact HB.out|apply zl1|apply zl2|apply zl3)|exact HB.out))):w.heap.size≤gb150));have GE150:=Aside0.mk ((by rw [hg];exact (below_size (by repeat (first|(with_reducible first|exact HB.out|apply zl1|apply zl2|apply zl3)|exact HB.out))):w.heap.size≤gb150));replace HB:=Aside0.mk (below_step (by repeat (first|(with_reducible first|exact HB.out|apply zl1|apply zl2|apply zl3)|exact HB.out)) hb);clear hb hbox hg;obtain ⟨hcz26_0,hcz26_1,hcz26_2,hcz26_3⟩:=zc4 BK150.out;obtain ⟨hfz26_0,hfz26_1,hfz26_2,hfz26_3⟩:=zf4 BK150.out)|(go_at_call 43;(with_reducible refine (node_rising.calls k _ _ l0_2 true _ ?side1 ?side2 A22.out).mono ?_);(case side1=>repeat (first|exact (Kd.C_below HR0_2.out HB.out)|(with_reducible refine Kd.C_alloc ?_ _)|(with_reducible refine Kd.C_drewN ?_ _)|(with_reducible refine Kd.C_drew ?_)));(case side2=>exact HC0_2.out);rintro e w' ⟨rfl,⟨nd,rfl⟩⟩)|(go_at_call 47;(with_reducible refine (slices_ContainsFunc_at_node_right_2.calls k _ _ l0_3 t157 _ ?side1 ?side2 A24.out).mono ?_);(case side1=>repeat (first|exact (Kd.C_below HR0_3.out (by repeat (first|(with_reducible first|exact HB.out|apply zl1|apply zl2|apply zl3|refine below_set ?_ GE150.out)|exact HB.out)))|(with_reducible refine Kd.C_alloc ?_ _)|(with_reducible refine Kd.C_drewN ?_ _)|(with_reducible refine Kd.C_drew ?_)));(case side2=>exact HC0_3.out);rintro e w27 ⟨rfl,hb⟩;replace BK150:=Aside0.mk (blk_below (g:=gb150) (o:=.cells #[.bool false,.slice A0_1 l0_1.length c0_1,.slice A0_2 l0_2.length c0_2,.slice A0_3 l0_3.length c0_3] 26 (0,0)) (by (with_reducible repeat (first|apply zb1|apply zb2|apply zb3));exact BK150.out) hb);replace HB:=Aside0.mk (below_step (by repeat (first|(with_reducible first|exact HB.out|apply zl1|apply zl2|apply zl3|refine below_set ?_ GE150.out)|exact HB.out)) hb);(try clear hb)))
     go_ret
     exact ⟨by first|(with_reducible rfl)|(simp only [isEmpty_bne,Bool.not_not] <;> rfl)|rfl|(simp [*,errW_none,errW_some] <;> rfl),by repeat (first|(with_reducible first|exact HB.out|apply zl1|apply zl2|apply zl3|refine below_set ?_ GE150.out)|exact HB.out)⟩
    ·replace c23:=Bool.eq_false_iff.mpr c23
     subst c23
     have H1:(some false)=some r:=by rw [if_neg (show ¬ (false=true) by decide)] at H;exact H
     clear H
     have H:=H1
     clear H1
     obtain rfl:=Option.some.inj H
     go_enter Try.func23,Try.ntmps23
     go_wp2_with (first|((with_reducible refine gate_dst (N:=1) rfl ?_);(try (refine gate_guard (by rfl) ?_;dsimp only));refine box_event ?hg (N:=1) ?hd (cs:=#[.bool false,.slice A0_1 l0_1.length c0_1,.slice A0_2 l0_2.length c0_2,.slice A0_3 l0_3.length c0_3]) (t:=26) ?hr ?_;(case hd=>rfl);(case hg=>rfl);(case hr=>first|(go_simp;done)|(go_simp;rfl));intro gb150 hg w28 hbox hb;have BK150:=Aside0.mk (hbox);have GW150:=Aside0.mk ((by rw [hg];exact (below_size (by repeat (first|(with_reducible first|exact HB.out|apply zl1|apply zl2|apply zl3)|exact HB.out))):w.heap.size≤gb150));have GE150:=Aside0.mk ((by rw [hg];exact (below_size (by repeat (first|(with_reducible first|exact HB.out|apply zl1|apply zl2|apply zl3)|exact HB.out))):w.heap.size≤gb150));replace HB:=Aside0.mk (below_step (by repeat (first|(with_reducible first|exact HB.out|apply zl1|apply zl2|apply zl3)|exact HB.out)) hb);clear hb hbox hg;obtain ⟨hcz29_0,hcz29_1,hcz29_2,hcz29_3⟩:=zc4 BK150.out;obtain ⟨hfz29_0,hfz29_1,hfz29_2,hfz29_3⟩:=zf4 BK150.out)|(go_at_call 43;(with_reducible refine (node_rising.calls k _ _ l0_2 false _ ?side1 ?side2 A22.out).mono ?_);(case side1=>repeat (first|exact (Kd.C_below HR0_2.out HB.out)|(with_reducible refine Kd.C_alloc ?_ _)|(with_reducible refine Kd.C_drewN ?_ _)|(with_reducible refine Kd.C_drew ?_)));(case side2=>exact HC0_2.out);rintro e w' ⟨rfl,⟨nd,rfl⟩⟩))
     go_ret
     exact ⟨by first|(with_reducible rfl)|(simp only [isEmpty_bne,Bool.not_not] <;> rfl)|rfl|(simp [*,errW_none,errW_some] <;> rfl),by repeat (first|(with_reducible first|exact HB.out|apply zl1|apply zl2|apply zl3|refine below_set ?_ GE150.out)|exact HB.out)⟩
   ·rw [if_neg c21] at H
    have c21b0:((l0_3.length:Int) == (wrap64 ((l0_2.length:Int) + 1)))=false:=beq_eq_false_iff_ne.mpr c21
    have c21b1:((l0_3.length:Int) != (wrap64 ((l0_2.length:Int) + 1)))=true:=bne_iff_ne.mpr c21
    obtain rfl:=Option.some.inj H
    go_enter Try.func23,Try.ntmps23
    go_wp2_with (first|((with_reducible refine gate_dst (N:=1) rfl ?_);(try (refine gate_guard (by rfl) ?_;dsimp only));refine box_event ?hg (N:=1) ?hd (cs:=#[.bool false,.slice A0_1 l0_1.length c0_1,.slice A0_2 l0_2.length c0_2,.slice A0_3 l0_3.length c0_3]) (t:=26) ?hr ?_;(case hd=>rfl);(case hg=>rfl);(case hr=>first|(go_simp;done)|(go_simp;rfl));intro gb150 hg w30 hbox hb;have BK150:=Aside0.mk (hbox);have GW150:=Aside0.mk ((by rw [hg];exact (below_size (by repeat (first|(with_reducible first|exact HB.out|apply zl1|apply zl2|apply zl3)|exact HB.out))):w.heap.size≤gb150));have GE150:=Aside0.mk ((by rw [hg];exact (below_size (by repeat (first|(with_reducible first|exact HB.out|apply zl1|apply zl2|apply zl3)|exact HB.out))):w.heap.size≤gb150));replace HB:=Aside0.mk (below_step (by repeat (first|(with_reducible first|exact HB.out|apply zl1|apply zl2|apply zl3)|exact HB.out)) hb);clear hb hbox hg;obtain ⟨hcz31_0,hcz31_1,hcz31_2,hcz31_3⟩:=zc4 BK150.out;obtain ⟨hfz31_0,hfz31_1,hfz31_2,hfz31_3⟩:=zf4 BK150.out))
    go_ret
    exact ⟨by first|(with_reducible rfl)|(simp only [isEmpty_bne,Bool.not_not] <;> rfl)|rfl|(simp [*,errW_none,errW_some] <;> rfl),by repeat (first|(with_reducible first|exact HB.out|apply zl1|apply zl2|apply zl3|refine below_set ?_ GE150.out)|exact HB.out)⟩
  ·rw [if_neg c20] at H
   have c20b0:((l0_1.length:Int) == 0)=false:=beq_eq_false_iff_ne.mpr c20
   have c20b1:((l0_1.length:Int) != 0)=true:=bne_iff_ne.mpr c20
   have c20b2:¬ (l0_1=[]):=fun h_=>c20 (by rw [h_];rfl)
   obtain rfl:=Option.some.inj H
   go_enter Try.func23,Try.ntmps23
   go_wp2_with (first|((with_reducible refine gate_dst (N:=1) rfl ?_);(try (refine gate_guard (by rfl) ?_;dsimp only));refine box_event ?hg (N:=1) ?hd (cs:=#[.bool false,.slice A0_1 l0_1.length c0_1,.slice A0_2 l0_2.length c0_2,.slice A0_3 l0_3.length c0_3]) (t:=26) ?hr ?_;(case hd=>rfl);(case hg=>rfl);(case hr=>first|(go_simp;done)|(go_simp;rfl));intro gb150 hg w32 hbox hb;have BK150:=Aside0.mk (hbox);have GW150:=Aside0.mk ((by rw [hg];exact (below_size (by repeat (first|(with_reducible first|exact HB.out|apply zl1|apply zl2|apply zl3)|exact HB.out))):w.heap.size≤gb150));have GE150:=Aside0.mk ((by rw [hg];exact (below_size (by repeat (first|(with_reducible first|exact HB.out|apply zl1|apply zl2|apply zl3)|exact HB.out))):w.heap.size≤gb150));replace HB:=Aside0.mk (below_step (by repeat (first|(with_reducible first|exact HB.out|apply zl1|apply zl2|apply zl3)|exact HB.out)) hb);clear hb hbox hg;obtain ⟨hcz33_0,hcz33_1,hcz33_2,hcz33_3⟩:=zc4 BK150.out;obtain ⟨hfz33_0,hfz33_1,hfz33_2,hfz33_3⟩:=zf4 BK150.out))
   go_ret
   exact ⟨by first|(with_reducible rfl)|(simp only [isEmpty_bne,Bool.not_not] <;> rfl)|rfl|(simp [*,errW_none,errW_some] <;> rfl),by repeat (first|(with_reducible first|exact HB.out|apply zl1|apply zl2|apply zl3|refine below_set ?_ GE150.out)|exact HB.out)⟩

/-! ### node_weigh: function 29 -/
def node_weigh.f (a0_0:ByteArray) (a0_1:ByteArray):Option (Int):=some (wrap64 ((wrap64 (2 + (a0_0.size:Int))) + (a0_1.size:Int)))
set_option maxHeartbeats 8000000 in
set_option maxRecDepth 100000 in
theorem node_weigh.calls (a0_0:ByteArray) (a0_1:ByteArray) (r:Int) (w:World) (h:node_weigh.f a0_0 a0_1=some r) :
  Calls Try.prog 29 #[.agg #[.string a0_0,.string a0_1]] w fun e w'=>e=.returned (.int .i64 r)∧Below w.heap.size w w':=by
 have hu43:=Try.underlying43
 have HB:=Aside0.mk (Below.refl w.heap.size w)
 have H:(some (wrap64 ((wrap64 (2 + (a0_0.size:Int))) + (a0_1.size:Int))))=some r:=h
 clear h
 obtain rfl:=Option.some.inj H
 go_enter Try.func29,Try.ntmps29
 go_wp2_with (first|((with_reducible refine gate_dst (N:=1) rfl ?_);refine box_event ?hg (N:=1) ?hd (cs:=#[.string a0_0,.string a0_1]) (t:=43) ?hr ?_;(case hd=>rfl);(case hg=>rfl);(case hr=>first|(go_simp;done)|(go_simp;rfl));intro gb158 hg w2 hbox hb;have BK158:=Aside0.mk (hbox);have GW158:=Aside0.mk ((by rw [hg];exact (below_size (by repeat (first|(with_reducible first|exact HB.out|apply zl1|apply zl2|apply zl3)|exact HB.out))):w.heap.size≤gb158));have GE158:=Aside0.mk ((by rw [hg];exact (below_size (by repeat (first|(with_reducible first|exact HB.out|apply zl1|apply zl2|apply zl3)|exact HB.out))):w.heap.size≤gb158));replace HB:=Aside0.mk (below_step (by repeat (first|(with_reducible first|exact HB.out|apply zl1|apply zl2|apply zl3)|exact HB.out)) hb);clear hb hbox hg;have hcz3_0:w2.cell? ⟨gb158,0,none⟩=some (.string a0_0):=(blk_cell BK158.out 0).trans rfl;have hcz3_1:w2.cell? ⟨gb158,1,none⟩=some (.string a0_1):=(blk_cell BK158.out 1).trans rfl;have hfz3_0:=blk_frozen BK158.out 0;have hfz3_1:=blk_frozen BK158.out 1))
 go_ret
 exact ⟨by first|(with_reducible rfl)|(simp only [isEmpty_bne,Bool.not_not] <;> rfl)|rfl|(simp [*,errW_none,errW_some] <;> rfl),by repeat (first|(with_reducible first|exact HB.out|apply zl1|apply zl2|apply zl3|refine below_set ?_ GE158.out)|exact HB.out)⟩

end Go.Proofs.Ytokjbncjapndgaa.PAll
