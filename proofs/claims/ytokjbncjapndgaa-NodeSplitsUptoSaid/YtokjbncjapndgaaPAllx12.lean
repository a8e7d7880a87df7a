/- Printed walks of the functions that the laws reach: each function, what it computes, and that it does. No conditions. -/
import Derived.Test.YtokjbncjapndgaaPAllx0
import Derived.Test.YtokjbncjapndgaaPAllx3
import Derived.Test.YtokjbncjapndgaaPAllx9
import Derived.Test.YtokjbncjapndgaaPAllx11
namespace Go.Proofs.Ytokjbncjapndgaa.PAll
open Go.RowKit Go.Proofs.Ytokjbncjapndgaa.XW Go.Proofs.Ytokjbncjapndgaa.XLib Go.Proofs.YtokjbncjapndgaaW.PrintWords Go.Proofs.YtokjbncjapndgaaW.PrintLast Go.Proofs.YtokjbncjapndgaaW.PrintMore
attribute [local go_sem] max2_int min2_int max_two min_two max_three min_three max_four min_four   -- for this text's walks alone
set_option linter.unusedVariables false
set_option linter.unusedSimpArgs false

/-! ### factotumlaw09_lives: function 7 -/
def factotumlaw09_lives.f (k:Nat) :Option (Bool):=(node_Put.f k true ([]:List (S43)) ([]:List ByteArray) ([]:List Int) (⟨#[97]⟩:ByteArray) (⟨#[49]⟩:ByteArray)).bind fun bt211=>((node_Write.f k bt211.1 bt211.2.1 bt211.2.2.1 bt211.2.2.2).bind fun bt222=>(if (bt211.2.1.length:Int)=1 then (if bt222.2=0 then (if (bt222.1.size:Int)=256 then (if 0≤6 then (if 6≤(bt222.1.size:Int) then (if (bt222.1.extract 0 6).toList=([1,1,1,97,1,49]:List UInt8) then ((node_Size.f k bt211.1 bt211.2.1 bt211.2.2.1 bt211.2.2.2).bind fun t224=>(some (t224 == 6))) else (none)) else (none)) else (none)) else (none)) else (none)) else (none)))
theorem factotumlaw09_lives.mono:∀ k,LeO (factotumlaw09_lives.f k ) (factotumlaw09_lives.f (k + 1) ):=by
 intro  k
 unfold factotumlaw09_lives.f
 repeat' first
   | (with_reducible exact node_Put.mono _ _ _ _ _ _ _)
   | (with_reducible exact node_Size.mono _ _ _ _ _)
   | (with_reducible exact node_Write.mono _ _ _ _ _)
   | (with_reducible exact LeO.refl _)
   | (with_reducible exact LeO.none _)
   | (with_reducible refine LeO.ite ?_ ?_)
   | (with_reducible refine LeO.bind ?_ (fun _=>?_))
   | exact node_Put.mono _ _ _ _ _ _ _
   | exact node_Size.mono _ _ _ _ _
   | exact node_Write.mono _ _ _ _ _
   | exact LeO.none _
   | refine LeO.ite ?_ ?_
   | refine LeO.bind ?_ (fun _=>?_)
set_option maxHeartbeats 8000000 in
set_option maxRecDepth 100000 in
theorem factotumlaw09_lives.calls (k:Nat)  (r:Bool) (w:World) (h:factotumlaw09_lives.f k =some r) :
  Calls Try.prog 7 #[] w fun e w'=>e=.returned (.bool r)∧Below w.heap.size w w':=by
 have hu26:=Try.underlying26
 have HB:=Aside0.mk (Below.refl w.heap.size w)
 have H:((node_Put.f k true ([]:List (S43)) ([]:List ByteArray) ([]:List Int) (⟨#[97]⟩:ByteArray) (⟨#[49]⟩:ByteArray)).bind fun bt211=>((node_Write.f k bt211.1 bt211.2.1 bt211.2.2.1 bt211.2.2.2).bind fun bt222=>(if (bt211.2.1.length:Int)=1 then (if bt222.2=0 then (if (bt222.1.size:Int)=256 then (if 0≤6 then (if 6≤(bt222.1.size:Int) then (if (bt222.1.extract 0 6).toList=([1,1,1,97,1,49]:List UInt8) then ((node_Size.f k bt211.1 bt211.2.1 bt211.2.2.1 bt211.2.2.2).bind fun t224=>(some (t224 == 6))) else (none)) else (none)) else (none)) else (none)) else (none)) else (none))))=some r:=h
 clear h
 replace H:=Option.bind_eq_some_iff.mp H
 obtain ⟨⟨t211,t212,t215,t218⟩,A10,H⟩:=H
 replace H:((node_Write.f k t211 t212 t215 t218).bind fun bt222=>(if (t212.length:Int)=1 then (if bt222.2=0 then (if (bt222.1.size:Int)=256 then (if 0≤6 then (if 6≤(bt222.1.size:Int) then (if (bt222.1.extract 0 6).toList=([1,1,1,97,1,49]:List UInt8) then ((node_Size.f k t211 t212 t215 t218).bind fun t224=>(some (t224 == 6))) else (none)) else (none)) else (none)) else (none)) else (none)) else (none)))=some r:=H
 have A1:=Aside0.mk A10
 clear A10
 replace H:=Option.bind_eq_some_iff.mp H
 obtain ⟨⟨t222,t223⟩,A20,H⟩:=H
 replace H:(if (t212.length:Int)=1 then (if t223=0 then (if (t222.size:Int)=256 then (if 0≤6 then (if 6≤(t222.size:Int) then (if (t222.extract 0 6).toList=([1,1,1,97,1,49]:List UInt8) then ((node_Size.f k t211 t212 t215 t218).bind fun t224=>(some (t224 == 6))) else (none)) else (none)) else (none)) else (none)) else (none)) else (none))=some r:=H
 have A2:=Aside0.mk A20
 clear A20
 by_cases c3:(t212.length:Int)=1
 ·rw [if_pos c3] at H
  have c3b0:((t212.length:Int) == 1)=true:=beq_iff_eq.mpr c3
  have c3b1:((t212.length:Int) != 1)=false:=bne_eq_false_iff_eq.mpr c3
  clear c3
  by_cases c4:t223=0
  ·rw [if_pos c4] at H
   have c4b0:(t223 == 0)=true:=beq_iff_eq.mpr c4
   have c4b1:(t223 != 0)=false:=bne_eq_false_iff_eq.mpr c4
   clear c4
   by_cases c5:(t222.size:Int)=256
   ·rw [if_pos c5] at H
    have c5b0:((t222.size:Int) == 256)=true:=beq_iff_eq.mpr c5
    have c5b1:((t222.size:Int) != 256)=false:=bne_eq_false_iff_eq.mpr c5
    clear c5
    by_cases c6:0≤6
    ·rw [if_pos c6] at H
     have c6b0:=eq_true c6
     have c6b1:decide (0≤6)=true:=decide_eq_true c6
     clear c6
     by_cases c7:6≤(t222.size:Int)
     ·rw [if_pos c7] at H
      have c7b0:=eq_true c7
      have c7b1:decide (6≤(t222.size:Int))=true:=decide_eq_true c7
      clear c7
      by_cases c8:(t222.extract 0 6).toList=([1,1,1,97,1,49]:List UInt8)
      ·rw [if_pos c8] at H
       have c8b0:((t222.extract 0 6).toList == ([1,1,1,97,1,49]:List UInt8))=true:=beq_iff_eq.mpr c8
       have c8b1:((t222.extract 0 6).toList != ([1,1,1,97,1,49]:List UInt8))=false:=bne_eq_false_iff_eq.mpr c8
       clear c8
       replace H:=Option.bind_eq_some_iff.mp H
       obtain ⟨t224,A90,H⟩:=H
       replace H:(some (t224 == 6))=some r:=H
       have A9:=Aside0.mk A90
       clear A90
       obtain rfl:=Option.some.inj H
       go_enter Try.func7,Try.ntmps7
       go_wp2_with (first|((with_reducible refine gate_callee (f:=22) rfl ?_);refine goesL_ (some 5) rfl rfl Try.func22 (by kernel_rfl) rfl #[.agg #[.bool true,.slice none 0 0,.slice none 0 0,.slice none 0 0],.string (⟨#[97]⟩:ByteArray),.string (⟨#[49]⟩:ByteArray)] rfl (by (try simp only [List.map_toArray,List.map_cons,List.map_nil]);first|done|rfl|(simp only [List.length_drop,List.length_take];rfl)|(simp (disch:=omega) only [u64_in];rfl)) ?_;(refine (node_Put.calls k true _ _ ([]:List (S43)) _ _ ([]:List ByteArray) _ _ ([]:List Int) (⟨#[97]⟩:ByteArray) (⟨#[49]⟩:ByteArray) t211 t212 t215 t218 _ ?side1 ?side2 ?side3 ?side4 ?side5 ?side6 A1.out).mono ?_);(case side1=>exact Kd.C_nil _ _);(case side2=>exact Nat.le_refl _);(case side3=>exact Kd.C_nil _ _);(case side4=>exact Nat.le_refl _);(case side5=>exact Kd.C_nil _ _);(case side6=>exact Nat.le_refl _);rintro e w10 ⟨v213,v216,v219,rfl,ho0,ho1,ho2,hb⟩;refine ⟨_,rfl,?_⟩;have HO214:=Aside0.mk (Kd.R_lower ho0 (below_size (by repeat (first|(with_reducible first|exact HB.out|apply zl1|apply zl2|apply zl3)|exact HB.out))));have HO217:=Aside0.mk (Kd.R_lower ho1 (below_size (by repeat (first|(with_reducible first|exact HB.out|apply zl1|apply zl2|apply zl3)|exact HB.out))));have HO220:=Aside0.mk (Kd.R_lower ho2 (below_size (by repeat (first|(with_reducible first|exact HB.out|apply zl1|apply zl2|apply zl3)|exact HB.out))));replace HB:=Aside0.mk (below_step (by repeat (first|(with_reducible first|exact HB.out|apply zl1|apply zl2|apply zl3)|exact HB.out)) hb);(try clear hb);(try clear ho0);(try clear ho1);(try clear ho2))|((with_reducible refine gate_dst (N:=1) rfl ?_);(try (refine gate_guard (by rfl) ?_;dsimp only));refine box_event ?hg (N:=1) ?hd (cs:=#[.bool false,.slice none 0 0,.slice none 0 0,.slice none 0 0]) (t:=26) ?hr ?_;(case hd=>rfl);(case hg=>rfl);(case hr=>first|(go_simp;done)|(go_simp;rfl));intro gb221 hg w11 hbox hb;replace HO214:=Aside0.mk (Kd.R_below (by (with_reducible repeat (first|apply zk1|apply zk2|apply zk3));exact HO214.out) hb);replace HO217:=Aside0.mk (Kd.R_below (by (with_reducible repeat (first|apply zk1|apply zk2|apply zk3));exact HO217.out) hb);replace HO220:=Aside0.mk (Kd.R_below (by (with_reducible repeat (first|apply zk1|apply zk2|apply zk3));exact HO220.out) hb);have BK221:=Aside0.mk (hbox);have GW221:=Aside0.mk ((by rw [hg];exact (below_size (by repeat (first|(with_reducible first|exact HB.out|apply zl1|apply zl2|apply zl3)|exact HB.out))):w.heap.size≤gb221));have GE221:=Aside0.mk ((by rw [hg];exact (below_size (by repeat (first|(with_reducible first|exact HB.out|apply zl1|apply zl2|apply zl3)|exact HB.out))):w.heap.size≤gb221));replace HB:=Aside0.mk (below_step (by repeat (first|(with_reducible first|exact HB.out|apply zl1|apply zl2|apply zl3)|exact HB.out)) hb);clear hb hbox hg;obtain ⟨Ao12,co12,eo12⟩:=Kd.R_slice HO214.out;subst eo12;obtain ⟨Ao13,co13,eo13⟩:=Kd.R_slice HO217.out;subst eo13;obtain ⟨Ao14,co14,eo14⟩:=Kd.R_slice HO220.out;subst eo14)|((with_reducible refine gate_store (t:=26) (p:=1) rfl ?_);refine store_all 26 gb221 26 #[.bool false,.slice none 0 0,.slice none 0 0,.slice none 0 0] #[.bool t211,.slice Ao12 t212.length co12,.slice Ao13 t215.length co13,.slice Ao14 t218.length co14] rfl rfl rfl (by first|rfl|(go_simp;done)) (by (with_reducible repeat (first|apply zb1|apply zb2|apply zb3));exact BK221.out) (by kernel_rfl) rfl (by kernel_rfl) ?_;intro w15 hx hg;replace HO214:=Aside0.mk (Kd.R_mono (Kd.R_grown (Kd.R_types HO214.out BK221.out (by decide)) hg (fun k_ hk_ he_=>(hk_.2) (Option.some.inj he_))) (fun _ h_=>h_.1));replace HO217:=Aside0.mk (Kd.R_mono (Kd.R_grown (Kd.R_types HO217.out BK221.out (by decide)) hg (fun k_ hk_ he_=>(hk_.2) (Option.some.inj he_))) (fun _ h_=>h_.1));replace HO220:=Aside0.mk (Kd.R_mono (Kd.R_grown (Kd.R_types HO220.out BK221.out (by decide)) hg (fun k_ hk_ he_=>(hk_.2) (Option.some.inj he_))) (fun _ h_=>h_.1));replace HB:=Aside0.mk ((fun {W_:World} (hB_:Below w.heap.size w W_) (hg_:W_.grownBy w15 (some gb221))=>hB_.grown hg_ hB_.size (fun k_ e_=>by cases e_;exact GE221.out)) (by repeat (first|(with_reducible first|exact HB.out|apply zl1|apply zl2|apply zl3|refine below_set ?_ GE221.out)|exact HB.out)) hg);replace BK221:=Aside0.mk (hx);clear hx hg;obtain ⟨hcz16_0,hcz16_1,hcz16_2,hcz16_3⟩:=zc4 BK221.out;obtain ⟨hfz16_0,hfz16_1,hfz16_2,hfz16_3⟩:=zf4 BK221.out)|((with_reducible refine gate_callee (f:=8) rfl ?_);refine goesL_ (some 8) rfl rfl Try.func8 (by kernel_rfl) rfl #[.agg #[.bool t211,.slice Ao12 t212.length co12,.slice Ao13 t215.length co13,.slice Ao14 t218.length co14]] rfl (by (try simp only [List.map_toArray,List.map_cons,List.map_nil]);first|done|rfl|(simp only [List.length_drop,List.length_take];rfl)|(simp (disch:=omega) only [u64_in];rfl)) ?_;(with_reducible refine (node_Write.calls k t211 _ _ t212 _ _ t215 _ _ t218 t222 t223 _ ?side1 ?side2 ?side3 ?side4 ?side5 ?side6 A2.out).mono ?_);(case side1=>repeat (first|exact (Kd.R_reads' HO214.out).2.2|(with_reducible refine Kd.C_alloc ?_ _)|(with_reducible refine Kd.C_drewN ?_ _)|(with_reducible refine Kd.C_drew ?_)));(case side2=>exact (Kd.R_reads' HO214.out).2.1);(case side3=>repeat (first|exact (Kd.R_reads' HO217.out).2.2|(with_reducible refine Kd.C_alloc ?_ _)|(with_reducible refine Kd.C_drewN ?_ _)|(with_reducible refine Kd.C_drew ?_)));(case side4=>exact (Kd.R_reads' HO217.out).2.1);(case side5=>repeat (first|exact (Kd.R_reads' HO220.out).2.2|(with_reducible refine Kd.C_alloc ?_ _)|(with_reducible refine Kd.C_drewN ?_ _)|(with_reducible refine Kd.C_drew ?_)));(case side6=>exact (Kd.R_reads' HO220.out).2.1);rintro e w17 ⟨rfl,hb⟩;refine ⟨_,rfl,?_⟩;replace HO214:=Aside0.mk (Kd.R_below (by (with_reducible repeat (first|apply zk1|apply zk2|apply zk3));exact HO214.out) hb);replace HO217:=Aside0.mk (Kd.R_below (by (with_reducible repeat (first|apply zk1|apply zk2|apply zk3));exact HO217.out) hb);replace HO220:=Aside0.mk (Kd.R_below (by (with_reducible repeat (first|apply zk1|apply zk2|apply zk3));exact HO220.out) hb);replace BK221:=Aside0.mk (blk_below (g:=gb221) (o:=.cells #[.bool t211,.slice Ao12 t212.length co12,.slice Ao13 t215.length co13,.slice Ao14 t218.length co14] 26 (0,0)) (by (with_reducible repeat (first|apply zb1|apply zb2|apply zb3));exact BK221.out) hb);replace HB:=Aside0.mk (below_step (by repeat (first|(with_reducible first|exact HB.out|apply zl1|apply zl2|apply zl3|refine below_set ?_ GE221.out)|exact HB.out)) hb);(try clear hb);obtain ⟨hcz18_0,hcz18_1,hcz18_2,hcz18_3⟩:=zc4 BK221.out;obtain ⟨hfz18_0,hfz18_1,hfz18_2,hfz18_3⟩:=zf4 BK221.out)|(go_at_call 10;(with_reducible refine (node_Size.calls k t211 _ _ t212 _ _ t215 _ _ t218 t224 _ ?side1 ?side2 ?side3 ?side4 ?side5 ?side6 A9.out).mono ?_);(case side1=>repeat (first|exact (Kd.R_reads' HO214.out).2.2|(with_reducible refine Kd.C_alloc ?_ _)|(with_reducible refine Kd.C_drewN ?_ _)|(with_reducible refine Kd.C_drew ?_)));(case side2=>exact (Kd.R_reads' HO214.out).2.1);(case side3=>repeat (first|exact (Kd.R_reads' HO217.out).2.2|(with_reducible refine Kd.C_alloc ?_ _)|(with_reducible refine Kd.C_drewN ?_ _)|(with_reducible refine Kd.C_drew ?_)));(case side4=>exact (Kd.R_reads' HO217.out).2.1);(case side5=>repeat (first|exact (Kd.R_reads' HO220.out).2.2|(with_reducible refine Kd.C_alloc ?_ _)|(with_reducible refine Kd.C_drewN ?_ _)|(with_reducible refine Kd.C_drew ?_)));(case side6=>exact (Kd.R_reads' HO220.out).2.1);rintro e w19 ⟨rfl,hb⟩;replace HO214:=Aside0.mk (Kd.R_below (by (with_reducible repeat (first|apply zk1|apply zk2|apply zk3));exact HO214.out) hb);replace HO217:=Aside0.mk (Kd.R_below (by (with_reducible repeat (first|apply zk1|apply zk2|apply zk3));exact HO217.out) hb);replace HO220:=Aside0.mk (Kd.R_below (by (with_reducible repeat (first|apply zk1|apply zk2|apply zk3));exact HO220.out) hb);replace BK221:=Aside0.mk (blk_below (g:=gb221) (o:=.cells #[.bool t211,.slice Ao12 t212.length co12,.slice Ao13 t215.length co13,.slice Ao14 t218.length co14] 26 (0,0)) (by (with_reducible repeat (first|apply zb1|apply zb2|apply zb3));exact BK221.out) hb);replace HB:=Aside0.mk (below_step (by repeat (first|(with_reducible first|exact HB.out|apply zl1|apply zl2|apply zl3|refine below_set ?_ GE221.out)|exact HB.out)) hb);(try clear hb)))
       go_ret
       exact ⟨by first|(with_reducible rfl)|(simp only [isEmpty_bne,Bool.not_not] <;> rfl)|rfl|(simp [*,errW_none,errW_some] <;> rfl),by repeat (first|(with_reducible first|exact HB.out|apply zl1|apply zl2|apply zl3|refine below_set ?_ GE221.out)|exact HB.out)⟩
      ·rw [if_neg c8] at H
       exact absurd H (by simp)
     ·rw [if_neg c7] at H
      exact absurd H (by simp)
    ·rw [if_neg c6] at H
     exact absurd H (by simp)
   ·rw [if_neg c5] at H
    exact absurd H (by simp)
  ·rw [if_neg c4] at H
   exact absurd H (by simp)
 ·rw [if_neg c3] at H
  exact absurd H (by simp)

end Go.Proofs.Ytokjbncjapndgaa.PAll
