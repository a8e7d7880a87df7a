/- Printed walks of the functions that the laws reach: each function, what it computes, and that it does. No conditions. -/
import Derived.Test.YtokjbncjapndgaaDoorPAllx0
import Derived.Test.YtokjbncjapndgaaDoorPAllx3
import Derived.Test.YtokjbncjapndgaaDoorPAllx9
import Derived.Test.YtokjbncjapndgaaDoorPAllx11
namespace Go.Proofs.YtokjbncjapndgaaDoor.PAll
open Go.RowKit Go.Proofs.YtokjbncjapndgaaDoor.XW Go.Proofs.YtokjbncjapndgaaDoor.XLib Go.Proofs.YtokjbncjapndgaaDoorW.PrintWords Go.Proofs.YtokjbncjapndgaaDoorW.PrintLast Go.Proofs.YtokjbncjapndgaaDoorW.PrintMore
attribute [local go_sem] max2_int min2_int max_two min_two max_three min_three max_four min_four   -- for this text's walks alone
set_option linter.unusedVariables false
set_option linter.unusedSimpArgs false

/-! ### factotumlaw09_lives: function 5 -/
def factotumlaw09_lives.f (k:Nat) :Option (Bool):=(node_Put.f k true ([]:List (S44)) ([]:List ByteArray) ([]:List Int) (⟨#[97]⟩:ByteArray) (⟨#[49]⟩:ByteArray)).bind fun bt211=>((node_Write.f k bt211.1 bt211.2.1 bt211.2.2.1 bt211.2.2.2).bind fun bt222=>(if (bt211.2.1.length:Int)=1 then (if bt222.2=0 then (if (bt222.1.size:Int)=256 then (if 0≤6 then (if 6≤(bt222.1.size:Int) then (if (bt222.1.extract 0 6).toList=([1,1,1,97,1,49]:List UInt8) then ((node_Size.f k bt211.1 bt211.2.1 bt211.2.2.1 bt211.2.2.2).bind fun t224=>(some (t224 == 6))) else (none)) else (none)) else (none)) else (none)) else (none)) else (none)))
theorem factotumlaw09_lives.mono:∀ k,LeO (factotumlaw09_lives.f k ) (factotumlaw09_lives.f (k + 1) ):=by
 intro  k
 unfold factotumlaw09_lives.f
 repeat' first
   | (with_reducible exact node_Put.mono _ _ _ _ _ _ _)
   | (with_reducible exact node_Size.mono _ _ _ _ _)
   | (with_reducible exact node_Write.mono _ _ _ _ _)
   | (with_reducible exact LeO.refl _)
   | (with_reducible exact LeO.none _)
   | (with_reducible refine LeO.ite ?_ ?_)
   | (with_reducible refine LeO.bind ?_ (fun _=>?_))
   | exact node_Put.mono _ _ _ _ _ _ _
   | exact node_Size.mono _ _ _ _ _
   | exact node_Write.mono _ _ _ _ _
   | exact LeO.none _
   | refine LeO.ite ?_ ?_
   | refine LeO.bind ?_ (fun _=>?_)
set_option maxHeartbeats 8000000 in
set_option maxRecDepth 100000 in
theorem factotumlaw09_lives.calls (k:Nat)  (r:Bool) (w:World) (h:factotumlaw09_lives.f k =some r) :
  Calls Tryd.prog 5 #[] w fun e w'=>e=.returned (.bool r)∧Below w.heap.size w w':=by
 have hu27:=Tryd.underlying27
 have HB:=Aside0.mk (Below.refl w.heap.size w)
 have H:((node_Put.f k true ([]:List (S44)) ([]:List ByteArray) ([]:List Int) (⟨#[97]⟩:ByteArray) (⟨#[49]⟩:ByteArray)).bind fun bt211=>((node_Write.f k bt211.1 bt211.2.1 bt211.2.2.1 bt211.2.2.2).bind fun bt222=>(if (bt211.2.1.length:Int)=1 then (if bt222.2=0 then (if (bt222.1.size:Int)=256 then (if 0≤6 then (if 6≤(bt222.1.size:Int) then (if (bt222.1.extract 0 6).toList=([1,1,1,97,1,49]:List UInt8) then ((node_Size.f k bt211.1 bt211.2.1 bt211.2.2.1 bt211.2.2.2).bind fun t224=>(some (t224 == 6))) else (none)) else (none)) else (none)) else (none)) else (none)) else (none))))=some r:=h
 clear h
 replace H:=Option.bind_eq_some_iff.mp H
 obtain ⟨⟨t211,t212,t215,t218⟩,A10,H⟩:=H
 replace H:((node_Write.f k t211 t212 t215 t218).bind fun bt222=>(if (t212.length:Int)=1 then (if bt222.2=0 then (if (bt222.1.size:Int)=256 then (if 0≤6 then (if 6≤(bt222.1.size:Int) then (if (bt222.1.extract 0 6).toList=([1,1,1,97,1,49]:List UInt8) then ((node_Size.f k t211 t212 t215 t218).bind fun t224=>(some (t224 == 6))) else (none)) else (none)) else (none)) else (none)) else (none)) else (none)))=some r:=H
 have A1:=Aside0.mk A10
 clear A10
 replace H:=Option.bind_eq_some_iff.mp H
 obtain ⟨⟨t222,t223⟩,A20,H⟩:=H
 replace H:(if (t212.length:Int)=1 then (if t223=0 then (if (t222.size:Int)=256 then (if 0≤6 then (if 6≤(t222.size:Int) then (if (t222.extract 0 6).toList=([1,1,1,97,1,49]:List UInt8) then ((node_Size.f k t211 t212 t215 t218).bind fun t224=>(some (t224 == 6))) else (none)) else (none)) else (none)) else (none)) else (none)) else (none))=some r:=H
 have A2:=Aside0.mk A20
 clear A20
 by_cases c3:(t212.length:Int)=1
 ·rw [if_pos c3] at H
  have c3b0:((t212.length:Int) == 1)=true:=beq_iff_eq.mpr c3
  have c3b1:((t212.length:Int) != 1)=false:=bne_eq_false_iff_eq.mpr c3
  clear c3
  by_cases c4:t223=0
  ·rw [if_pos c4] at H
   have c4b0:(t223 == 0)=true:=beq_iff_eq.mpr c4
   have c4b1:(t223 != 0)=false:=bne_eq_false_iff_eq.mpr c4
   clear c4
   by_cases c5:(t222.size:Int)=256
   ·rw [if_pos c5] at H
    have c5b0:((t222.size:Int) == 256)=true:=beq_iff_eq.mpr c5
    have c5b1:((t222.size:Int) != 256)=false:=bne_eq_false_iff_eq.mpr c5
    clear c5
    by_cases c6:0≤6
    ·rw [if_pos c6] at H
     have c6b0:=eq_true c6
     have c6b1:decide (0≤6)=true:=decide_eq_true c6
     clear c6
     by_cases c7:6≤(t222.size:Int)
     ·rw [if_pos c7] at H
      have c7b0:=eq_true c7
      have c7b1:decide (6≤(t222.size:Int))=true:=decide_eq_true c7
      clear c7
      by_cases c8:(t222.extract 0 6).toList=([1,1,1,97,1,49]:List UInt8)
      ·rw [if_pos c8] at H
       have c8b0:((t222.extract 0 6).toList == ([1,1,1,97,1,49]:List UInt8))=true:=beq_iff_eq.mpr c8
       have c8b1:((t222.extract 0 6).toList != ([1,1,1,97,1,49]:List UInt8))=false:=bne_eq_false_iff_eq.mpr c8
       clear c8
       replace H:=Option.bind_eq_some_iff.mp H
       obtain ⟨t224,A90,H⟩:=H
       replace H:(some (t224 == 6))=some r:=H
       have A9:=Aside0.mk A90
       clear A90
       obtain rfl:=Option.some.inj H
       go_enter Tryd.func5,Tryd.ntmps5
       go_wp2_with (first|((with_reducible refine gate_callee (f:=10) rfl ?_);refine goesL_ (some 5) rfl rfl Tryd.func10 (by kernel_rfl) rfl #[.agg #[.bool true,.slice none 0 0,.slice none 0 0,.slice none 0 0],.string (⟨#[97]⟩:ByteArray),.string (⟨#[49]⟩:ByteArray)] rfl (by (try simp only [List.map_toArray,List.map_cons,List.map_nil]);first|done|rfl|(simp only [List.length_drop,List.length_take];rfl)|(simp (disch:=omega) only [u64_in];rfl)) ?_;(refine (node_Put.calls k true _ _ ([]:List (S44)) _ _ ([]:List ByteArray) _ _ ([]:List Int) (⟨#[97]⟩:ByteArray) (⟨#[49]⟩:ByteArray) t211 t212 t215 t218 _ ?side1 ?side2 ?side3 ?side4 ?side5 ?side6 A1.out).mono ?_);(case side1=>exact Kd.C_nil _ _);(case side2=>exact Nat.le_refl _);(case side3=>exact Kd.C_nil _ _);(case side4=>exact Nat.le_refl _);(case side5=>exact Kd.C_nil _ _);(case side6=>exact Nat.le_refl _);rintro e w10 ⟨v213,v216,v219,rfl,ho0,ho1,ho2,hb⟩;refine ⟨_,rfl,?_⟩;have HO214:=Aside0.mk (Kd.R_lower ho0 (below_size (by repeat (first|(with_reducible first|exact HB.out|apply zl1|apply zl2|apply zl3)|exact HB.out))));have HO217:=Aside0.mk (Kd.R_lower ho1 (below_size (by repeat (first|(with_reducible first|exact HB.out|apply zl1|apply zl2|apply zl3)|exact HB.out))));have HO220:=Aside0.mk (Kd.R_lower ho2 (below_size (by repeat (first|(with_reducible first|exact HB.out|apply zl1|apply zl2|apply zl3)|exact HB.out))));replace HB:=Aside0.mk (below_step (by repeat (first|(with_reducible first|exact HB.out|apply zl1|apply zl2|apply zl3)|exact HB.out)) hb);(try clear hb);(try clear ho0);(try clear ho1);(try clear ho2))|((with_reducible refine gate_dst (N:=1) rfl ?_);(try (refine gate_guard (by rfl) ?_;dsimp only));refine box_event ?hg (N:=1) ?hd (cs:=#[.bool false,.slice none 0 0,.slice none 0 0,.slice none 0 0]) (t:=27) ?hr ?_;(case hd=>rfl);(case hg=>rfl);(case hr=>first|(go_simp;done)|(go_simp;rfl));intro gb221 hg w11 hbox hb;replace HO214:=Aside0.mk (Kd.R_below (by (with_reducible repeat (first|apply zk1|apply zk2|apply zk3));exact HO214.out) hb);replace HO217:=Aside0.mk (Kd.R_below (by (with_reducible repeat (first|apply zk1|apply zk2|apply zk3));exact HO217.out) hb);replace HO220:=Aside0.mk (Kd.R_below (by (with_reducible repeat (first|apply zk1|apply zk2|apply zk3));exact HO220.out) hb);have BK221:=Aside0.mk (hbox);have GW221:=Aside0.mk ((by rw [hg];exact (below_size (by repeat (first|(with_reducible first|exact HB.out|apply zl1|apply zl2|apply zl3)|exact HB.out))):w.heap.size≤gb221));have GE221:=Aside0.mk ((by rw [hg];exact (below_size (by repeat (first|(with_reducible first|exact HB.out|apply zl1|apply zl2|apply zl3)|exact HB.out))):w.heap.size≤gb221));replace HB:=Aside0.mk (below_step (by repeat (first|(with_reducible first|exact HB.out|apply zl1|apply zl2|apply zl3)|exact HB.out)) hb);clear hb hbox hg;have hcz12_0:w11.cell? ⟨gb221,0,none⟩=some (.bool false):=(blk_cell BK221.out 0).trans rfl;have hcz12_1:w11.cell? ⟨gb221,1,none⟩=some (.slice none 0 0):=(blk_cell BK221.out 1).trans rfl;have hcz12_2:w11.cell? ⟨gb221,2,none⟩=some (.slice none 0 0):=(blk_cell BK221.out 2).trans rfl;have hcz12_3:w11.cell? ⟨gb221,3,none⟩=some (.slice none 0 0):=(blk_cell BK221.out 3).trans rfl;have hfz12_0:=blk_frozen BK221.out 0;have hfz12_1:=blk_frozen BK221.out 1;have hfz12_2:=blk_frozen BK221.out 2;have hfz12_3:=blk_frozen BK221.out 3;obtain ⟨Ao13,co13,eo13⟩:=Kd.R_slice HO214.out;subst eo13;obtain ⟨Ao14,co14,eo14⟩:=Kd.R_slice HO217.out;subst eo14;obtain ⟨Ao15,co15,eo15⟩:=Kd.R_slice HO220.out;subst eo15)|((with_reducible refine gate_callee (f:=9) rfl ?_);refine goesL_ (some 8) rfl rfl Tryd.func9 (by kernel_rfl) rfl #[.agg #[.bool t211,.slice Ao13 t212.length co13,.slice Ao14 t215.length co14,.slice Ao15 t218.length co15]] rfl (by (try simp only [List.map_toArray,List.map_cons,List.map_nil]);first|done|rfl|(simp only [List.length_drop,List.length_take];rfl)|(simp (disch:=omega) only [u64_in];rfl)) ?_;(with_reducible refine (node_Write.calls k t211 _ _ t212 _ _ t215 _ _ t218 t222 t223 _ ?side1 ?side2 ?side3 ?side4 ?side5 ?side6 A2.out).mono ?_);(case side1=>refine (Kd.R_reads' (e:=44) (base:=w.heap.size) (ok:=fun k_=>True) (n:=t212.length) (c:=co13) ?_).2.2;exact (by (with_reducible repeat (first|apply zk1|apply zk2|apply zk3));exact (Kd.R_mono (Kd.R_far (p:=⟨gb221,3,none⟩) (Kd.R_far (p:=⟨gb221,2,none⟩) (Kd.R_far (p:=⟨gb221,1,none⟩) (Kd.R_far (p:=⟨gb221,0,none⟩) (Kd.R_types HO214.out BK221.out (by decide)) (fun _ hk=>hk.2) (.bool t211)) (fun _ hk=>hk.2) (.slice Ao13 t212.length co13)) (fun _ hk=>hk.2) (.slice Ao14 t215.length co14)) (fun _ hk=>hk.2) (.slice Ao15 t218.length co15)) (fun _ h_=>h_.1))));(case side2=>exact (Kd.R_reads' HO214.out).2.1);(case side3=>refine (Kd.R_reads' (e:=9) (base:=w.heap.size) (ok:=fun k_=>True) (n:=t215.length) (c:=co14) ?_).2.2;exact (by (with_reducible repeat (first|apply zk1|apply zk2|apply zk3));exact (Kd.R_mono (Kd.R_far (p:=⟨gb221,3,none⟩) (Kd.R_far (p:=⟨gb221,2,none⟩) (Kd.R_far (p:=⟨gb221,1,none⟩) (Kd.R_far (p:=⟨gb221,0,none⟩) (Kd.R_types HO217.out BK221.out (by decide)) (fun _ hk=>hk.2) (.bool t211)) (fun _ hk=>hk.2) (.slice Ao13 t212.length co13)) (fun _ hk=>hk.2) (.slice Ao14 t215.length co14)) (fun _ hk=>hk.2) (.slice Ao15 t218.length co15)) (fun _ h_=>h_.1))));(case side4=>exact (Kd.R_reads' HO217.out).2.1);(case side5=>refine (Kd.R_reads' (e:=3) (base:=w.heap.size) (ok:=fun k_=>True) (n:=t218.length) (c:=co15) ?_).2.2;exact (by (with_reducible repeat (first|apply zk1|apply zk2|apply zk3));exact (Kd.R_mono (Kd.R_far (p:=⟨gb221,3,none⟩) (Kd.R_far (p:=⟨gb221,2,none⟩) (Kd.R_far (p:=⟨gb221,1,none⟩) (Kd.R_far (p:=⟨gb221,0,none⟩) (Kd.R_types HO220.out BK221.out (by decide)) (fun _ hk=>hk.2) (.bool t211)) (fun _ hk=>hk.2) (.slice Ao13 t212.length co13)) (fun _ hk=>hk.2) (.slice Ao14 t215.length co14)) (fun _ hk=>hk.2) (.slice Ao15 t218.length co15)) (fun _ h_=>h_.1))));(case side6=>exact (Kd.R_reads' HO220.out).2.1);rintro e w16 ⟨rfl,hb⟩;refine ⟨_,rfl,?_⟩;replace HO214:=Aside0.mk (Kd.R_below (by (with_reducible repeat (first|apply zk1|apply zk2|apply zk3));exact (Kd.R_mono (Kd.R_far (p:=⟨gb221,3,none⟩) (Kd.R_far (p:=⟨gb221,2,none⟩) (Kd.R_far (p:=⟨gb221,1,none⟩) (Kd.R_far (p:=⟨gb221,0,none⟩) (Kd.R_types HO214.out BK221.out (by decide)) (fun _ hk=>hk.2) (.bool t211)) (fun _ hk=>hk.2) (.slice Ao13 t212.length co13)) (fun _ hk=>hk.2) (.slice Ao14 t215.length co14)) (fun _ hk=>hk.2) (.slice Ao15 t218.length co15)) (fun _ h_=>h_.1))) hb);replace HO217:=Aside0.mk (Kd.R_below (by (with_reducible repeat (first|apply zk1|apply zk2|apply zk3));exact (Kd.R_mono (Kd.R_far (p:=⟨gb221,3,none⟩) (Kd.R_far (p:=⟨gb221,2,none⟩) (Kd.R_far (p:=⟨gb221,1,none⟩) (Kd.R_far (p:=⟨gb221,0,none⟩) (Kd.R_types HO217.out BK221.out (by decide)) (fun _ hk=>hk.2) (.bool t211)) (fun _ hk=>hk.2) (.slice Ao13 t212.length co13)) (fun _ hk=>hk.2) (.slice Ao14 t215.length co14)) (fun _ hk=>hk.2) (.slice Ao15 t218.length co15)) (fun _ h_=>h_.1))) hb);replace HO220:=Aside0.mk (Kd.R_below (by (with_reducible repeat (first|apply zk1|apply zk2|apply zk3));exact (Kd.R_mono (Kd.R_far (p:=⟨gb221,3,none⟩) (Kd.R_far (p:=⟨gb221,2,none⟩) (Kd.R_far (p:=⟨gb221,1,none⟩) (Kd.R_far (p:=⟨gb221,0,none⟩) (Kd.R_types HO220.out BK221.out (by decide)) (fun _ hk=>hk.2) (.bool t211)) (fun _ hk=>hk.2) (.slice Ao13 t212.length co13)) (fun _ hk=>hk.2) (.slice Ao14 t215.length co14)) (fun _ hk=>hk.2) (.slice Ao15 t218.length co15)) (fun _ h_=>h_.1))) hb);replace BK221:=Aside0.mk (blk_below (g:=gb221) (o:=.cells #[.bool t211,.slice Ao13 t212.length co13,.slice Ao14 t215.length co14,.slice Ao15 t218.length co15] 27 (0,0)) (by (with_reducible repeat (first|apply zb1|apply zb2|apply zb3));refine blk_put (cs:=#[.bool t211,.slice Ao13 t212.length co13,.slice Ao14 t215.length co14,.slice none 0 0]) ?_ 3 _ rfl;(with_reducible repeat (first|apply zb1|apply zb2|apply zb3));refine blk_put (cs:=#[.bool t211,.slice Ao13 t212.length co13,.slice none 0 0,.slice none 0 0]) ?_ 2 _ rfl;(with_reducible repeat (first|apply zb1|apply zb2|apply zb3));refine blk_put (cs:=#[.bool t211,.slice none 0 0,.slice none 0 0,.slice none 0 0]) ?_ 1 _ rfl;(with_reducible repeat (first|apply zb1|apply zb2|apply zb3));refine blk_put (cs:=#[.bool false,.slice none 0 0,.slice none 0 0,.slice none 0 0]) ?_ 0 _ rfl;(with_reducible repeat (first|apply zb1|apply zb2|apply zb3));exact BK221.out) hb);replace HB:=Aside0.mk (below_step (by repeat (first|(with_reducible first|exact HB.out|apply zl1|apply zl2|apply zl3|refine below_set ?_ GE221.out)|exact HB.out)) hb);(try clear hb);have hcz17_0:w16.cell? ⟨gb221,0,none⟩=some (.bool t211):=(blk_cell BK221.out 0).trans rfl;have hcz17_1:w16.cell? ⟨gb221,1,none⟩=some (.slice Ao13 t212.length co13):=(blk_cell BK221.out 1).trans rfl;have hcz17_2:w16.cell? ⟨gb221,2,none⟩=some (.slice Ao14 t215.length co14):=(blk_cell BK221.out 2).trans rfl;have hcz17_3:w16.cell? ⟨gb221,3,none⟩=some (.slice Ao15 t218.length co15):=(blk_cell BK221.out 3).trans rfl;have hfz17_0:=blk_frozen BK221.out 0;have hfz17_1:=blk_frozen BK221.out 1;have hfz17_2:=blk_frozen BK221.out 2;have hfz17_3:=blk_frozen BK221.out 3)|(go_at_call 11;(with_reducible refine (node_Size.calls k t211 _ _ t212 _ _ t215 _ _ t218 t224 _ ?side1 ?side2 ?side3 ?side4 ?side5 ?side6 A9.out).mono ?_);(case side1=>repeat (first|exact (Kd.R_reads' HO214.out).2.2|(with_reducible refine Kd.C_alloc ?_ _)|(with_reducible refine Kd.C_drewN ?_ _)|(with_reducible refine Kd.C_drew ?_)));(case side2=>exact (Kd.R_reads' HO214.out).2.1);(case side3=>repeat (first|exact (Kd.R_reads' HO217.out).2.2|(with_reducible refine Kd.C_alloc ?_ _)|(with_reducible refine Kd.C_drewN ?_ _)|(with_reducible refine Kd.C_drew ?_)));(case side4=>exact (Kd.R_reads' HO217.out).2.1);(case side5=>repeat (first|exact (Kd.R_reads' HO220.out).2.2|(with_reducible refine Kd.C_alloc ?_ _)|(with_reducible refine Kd.C_drewN ?_ _)|(with_reducible refine Kd.C_drew ?_)));(case side6=>exact (Kd.R_reads' HO220.out).2.1);rintro e w18 ⟨rfl,hb⟩;replace HO214:=Aside0.mk (Kd.R_below (by (with_reducible repeat (first|apply zk1|apply zk2|apply zk3));exact HO214.out) hb);replace HO217:=Aside0.mk (Kd.R_below (by (with_reducible repeat (first|apply zk1|apply zk2|apply zk3));exact HO217.out) hb);replace HO220:=Aside0.mk (Kd.R_below (by (with_reducible repeat (first|apply zk1|apply zk2|apply zk3));exact HO220.out) hb);replace BK221:=Aside0.mk (blk_below (g:=gb221) (o:=.cells #[.bool t211,.slice Ao13 t212.length co13,.slice Ao14 t215.length co14,.slice Ao15 t218.length co15] 27 (0,0)) (by (with_reducible repeat (first|apply zb1|apply zb2|apply zb3));exact BK221.out) hb);replace HB:=Aside0.mk (below_step (by repeat (first|(with_reducible first|exact HB.out|apply zl1|apply zl2|apply zl3|refine below_set ?_ GE221.out)|exact HB.out)) hb);(try clear hb)))
       go_ret
       exact ⟨by first|(with_reducible rfl)|(simp only [isEmpty_bne,Bool.not_not] <;> rfl)|rfl|(simp [*,errW_none,errW_some] <;> rfl),by repeat (first|(with_reducible first|exact HB.out|apply zl1|apply zl2|apply zl3|refine below_set ?_ GE221.out)|exact HB.out)⟩
      ·rw [if_neg c8] at H
       exact absurd H (by simp)
     ·rw [if_neg c7] at H
      exact absurd H (by simp)
    ·rw [if_neg c6] at H
     exact absurd H (by simp)
   ·rw [if_neg c5] at H
    exact absurd H (by simp)
  ·rw [if_neg c4] at H
   exact absurd H (by simp)
 ·rw [if_neg c3] at H
  exact absurd H (by simp)

/-- A state of type 62 at block g of W; what its slices lead to came in by w0. -/
def IsS62 (w0 W:World) (g:Nat) (f0:ByteArray) (f1:Int):Prop:=W.heap[g]?=some (.cells #[.string f0,.int .i64 f1] 62 (0,0))∧w0.heap.size≤g
theorem IsS62.grown {w0 W:World} {g:Nat} {f0:ByteArray} {f1:Int} {W1:World} {row:Option Nat} (h:IsS62 w0 W g f0 f1) (hw:W.grownBy W1 row) (hne:some g ≠ row):IsS62 w0 W1 g f0 f1:=by
 obtain ⟨hb,hg⟩:=h
 exact ⟨blk_grown hb hw hne,hg⟩
theorem IsS62.own_neN {w0 W:World} {g:Nat} {f0:ByteArray} {f1:Int} {α:Type} {d:Kd α} {e:Nat} {base:Nat} {ok:Nat→Prop} {v:Value} {xs:List α} (h:IsS62 w0 W g f0 f1) (ho:Kd.N d e W base ok v xs) (ht:e ≠ 62):some g ≠ v.ownBlock:=by
 obtain ⟨hb,hg⟩:=h
 exact Kd.N_ne ho hb ht
theorem IsS62.fresh {w0 W:World} {g:Nat} {f0:ByteArray} {f1:Int} (h:IsS62 w0 W g f0 f1):∀ k,W.heap.size≤k→k ≠ g:=by
 obtain ⟨hb,hg⟩:=h
 exact Kd.freshB hb
theorem IsS62.kept {w0 W:World} {g:Nat} {f0:ByteArray} {f1:Int} {W1:World} {S:Nat→Prop} (h:IsS62 w0 W g f0 f1) (hk:Kept W W1 S) (hne:¬ S g):IsS62 w0 W1 g f0 f1:=by
 obtain ⟨hb,hg⟩:=h
 exact ⟨blk_kept hb hk hne,hg⟩
theorem IsS62.below {w0 W:World} {g:Nat} {f0:ByteArray} {f1:Int} {W1:World} (h:IsS62 w0 W g f0 f1) (hw:Below W.heap.size W W1):IsS62 w0 W1 g f0 f1:=h.grown (grown_of_below hw none) (by simp)
theorem IsS62.alloc {w0 W:World} {g:Nat} {f0:ByteArray} {f1:Int} (h:IsS62 w0 W g f0 f1) (o:Obj):IsS62 w0 (W.alloc o) g f0 f1:=h.below (below_alloc (Below.refl _ _) o)
theorem IsS62.drewN {w0 W:World} {g:Nat} {f0:ByteArray} {f1:Int} (h:IsS62 w0 W g f0 f1) (m:Nat):IsS62 w0 (W.drewN m) g f0 f1:=h
theorem IsS62.drew {w0 W:World} {g:Nat} {f0:ByteArray} {f1:Int} (h:IsS62 w0 W g f0 f1):IsS62 w0 W.drew g f0 f1:=h
theorem IsS62.at_ {w0 W:World} {g:Nat} {f0:ByteArray} {f1:Int} {w':World} {m:Nat} (hq:W.drewN m=w') (h:IsS62 w0 W g f0 f1):IsS62 w0 w' g f0 f1:=by subst hq;exact IsS62.drewN h m
theorem IsS62.apart {w0 W:World} {g:Nat} {f0:ByteArray} {f1:Int} {α:Type} {d:Kd α} {e:Nat} {base:Nat} {ok:Nat→Prop} {v:Value} {xs:List α} (h:IsS62 w0 W g f0 f1) (ho:d.R e W base ok v xs) (ht:∀ q,q ∈ e :: d.E→q ≠ 62):d.R e W base (fun k=>ok k∧k ≠ g) v xs:=by
 obtain ⟨hb,hg⟩:=h
 exact Kd.R_types ho hb ht
theorem IsS62.own_ne {w0 W:World} {g:Nat} {f0:ByteArray} {f1:Int} {α:Type} {d:Kd α} {e:Nat} {base:Nat} {ok:Nat→Prop} {v:Value} {xs:List α} (h:IsS62 w0 W g f0 f1) (ho:d.R e W base ok v xs) (ht:e ≠ 62):some g ≠ v.ownBlock:=by
 obtain ⟨hb,hg⟩:=h
 exact Kd.R_ne ho hb ht
theorem IsS62.apartQ {w0 W:World} {g:Nat} {f0:ByteArray} {f1:Int} {α:Type} {d:Kd α} {e:Nat} {base:Nat} {ok:Nat→Prop} {v:Value} {xs:List α} (h:IsS62 w0 W g f0 f1) (ho:d.Q e W base ok v xs) (ht:∀ q,q ∈ e :: d.E→q ≠ 62):d.Q e W base (fun k=>ok k∧k ≠ g) v xs:=by
 obtain ⟨hb,hg⟩:=h
 exact Kd.Q_types ho hb ht
theorem IsS62.own_neQ {w0 W:World} {g:Nat} {f0:ByteArray} {f1:Int} {α:Type} {d:Kd α} {e:Nat} {base:Nat} {ok:Nat→Prop} {v:Value} {xs:List α} (h:IsS62 w0 W g f0 f1) (ho:d.Q e W base ok v xs) (ht:e ≠ 62):some g ≠ v.ownBlock:=by
 obtain ⟨hb,hg⟩:=h
 exact Kd.Q_ne ho hb ht
theorem IsS62.apartS {w0 W:World} {g:Nat} {f0:ByteArray} {f1:Int} {α:Type} {d:Kd α} {e:Nat} {base:Nat} {ok:Nat→Prop} {v:Value} {xs:List α} (h:IsS62 w0 W g f0 f1) (ho:d.S e W base ok v xs) (ht:∀ q,q ∈ e :: d.E→q ≠ 62):d.S e W base (fun k=>ok k∧k ≠ g) v xs:=by
 obtain ⟨hb,hg⟩:=h
 exact Kd.S_types ho hb ht
theorem IsS62.own_neS {w0 W:World} {g:Nat} {f0:ByteArray} {f1:Int} {α:Type} {d:Kd α} {e:Nat} {base:Nat} {ok:Nat→Prop} {v:Value} {xs:List α} (h:IsS62 w0 W g f0 f1) (ho:d.S e W base ok v xs) (ht:e ≠ 62):some g ≠ v.ownBlock:=by
 obtain ⟨hb,hg⟩:=h
 exact Kd.S_ne ho hb ht
theorem IsS62.lt {w0 W:World} {g:Nat} {f0:ByteArray} {f1:Int} (h:IsS62 w0 W g f0 f1):g < W.heap.size:=by
 obtain ⟨hb,hg⟩:=h
 exact blk_lt hb
theorem IsS62.ge {w0 W:World} {g:Nat} {f0:ByteArray} {f1:Int} (h:IsS62 w0 W g f0 f1):w0.heap.size≤g:=by
 obtain ⟨hb,hg⟩:=h
 exact hg
theorem IsS62.ne_blk {w0 W:World} {g:Nat} {f0:ByteArray} {f1:Int} {a:Nat} {cs:Array Value} {t:TypeId} {fr:Nat × Nat} (h:IsS62 w0 W g f0 f1) (hb2:W.heap[a]?=some (.cells cs t fr)) (ht:t ≠ 62):g ≠ a:=by
 obtain ⟨hb,hg⟩:=h
 rintro rfl
 rw [hb] at hb2
 injection hb2 with hb2
 injection hb2 with _ ht2
 exact ht ht2.symm
theorem IsS62.far {w0 W:World} {g:Nat} {f0:ByteArray} {f1:Int} {p:Addr} (h:IsS62 w0 W g f0 f1) (hne:g ≠ p.block) (u:Value):IsS62 w0 (W.setCell p u) g f0 f1:=by
 obtain ⟨hb,hg⟩:=h
 exact ⟨blk_far hb hne u,hg⟩
theorem cellS62_0 {W:World} {g:Nat} {f0:ByteArray} {f1:Int} (h:W.heap[g]?=some (.cells #[.string f0,.int .i64 f1] 62 (0,0))):W.cell? ⟨g,0,none⟩=some (.string f0):=(blk_cell h 0).trans rfl
theorem IsS62.set_0 {w0 W:World} {g:Nat} {f0:ByteArray} {f1:Int} (h:IsS62 w0 W g f0 f1) (x:ByteArray):IsS62 w0 (W.setCell ⟨g,0,none⟩ (.string x)) g x f1:=by
 obtain ⟨hb,hg⟩:=h
 exact ⟨by simpa using blk_set hb 0 (.string x),hg⟩
theorem cellS62_1 {W:World} {g:Nat} {f0:ByteArray} {f1:Int} (h:W.heap[g]?=some (.cells #[.string f0,.int .i64 f1] 62 (0,0))):W.cell? ⟨g,1,none⟩=some (.int .i64 f1):=(blk_cell h 1).trans rfl
theorem IsS62.set_1 {w0 W:World} {g:Nat} {f0:ByteArray} {f1:Int} (h:IsS62 w0 W g f0 f1) (x:Int):IsS62 w0 (W.setCell ⟨g,1,none⟩ (.int .i64 x)) g f0 x:=by
 obtain ⟨hb,hg⟩:=h
 exact ⟨by simpa using blk_set hb 1 (.int .i64 x),hg⟩
theorem IsS62.new (w0 W:World) (f0:ByteArray) (f1:Int) (hB:Below w0.heap.size w0 W):IsS62 w0 (W.alloc (.cells #[.string f0,.int .i64 f1] 62)) W.heap.size f0 f1:=⟨by simpa using heap_alloc_new W _,hB.size⟩

/-! ### pack_From: function 12 -/
def pack_From.f (a0:ByteArray):Option (ByteArray × Int):=some (a0,0)
set_option maxHeartbeats 8000000 in
set_option maxRecDepth 100000 in
theorem pack_From.calls (a0:ByteArray) (r1:ByteArray) (r2:Int) (w0 w:World) (hB:Below w0.heap.size w0 w) (h:pack_From.f a0=some (r1,r2)) :
  Calls Tryd.prog 12 #[.string a0] w fun e w'=>∃ g_:Nat,e=.returned (.pointer (some ⟨g_,0,none⟩))∧IsS62 w0 w' g_ r1 r2∧Below w0.heap.size w0 w'∧Below w.heap.size w w':=by
 have hu62:=Tryd.underlying62
 have HBW:=Aside0.mk (Below.refl w.heap.size w)
 have HW0:=Aside0.mk hB.size
 have HB:=Aside0.mk hB
 clear hB
 have H:(some (a0,0))=some (r1,r2):=h
 clear h
 simp only [Option.some.injEq,Prod.mk.injEq] at H
 obtain ⟨rfl,rfl⟩:=H
 go_enter Tryd.func12,Tryd.ntmps12
 go_wp2_with (first|((with_reducible refine gate_dst (N:=5) rfl ?_);refine box_event ?hg (N:=5) ?hd (cs:=#[.string a0,.int .i64 0]) (t:=62) ?hr ?_;(case hd=>rfl);(case hg=>rfl);(case hr=>first|(go_simp;done)|(go_simp;rfl));intro gb225 hg w2 hbox hb;replace HB:=Aside0.mk (below_step (by repeat (first|(with_reducible first|exact HB.out|apply zl1|apply zl2|apply zl3)|exact HB.out)) hb);have BK225:=Aside0.mk (hbox);have GW225:=Aside0.mk ((by rw [hg];exact (below_size (by repeat (first|(with_reducible first|exact HBW.out|apply zl1|apply zl2|apply zl3)|exact HBW.out))):w.heap.size≤gb225));have GE225:=Aside0.mk ((Nat.le_trans HW0.out (by rw [hg];exact (below_size (by repeat (first|(with_reducible first|exact HBW.out|apply zl1|apply zl2|apply zl3)|exact HBW.out))):w.heap.size≤gb225):w0.heap.size≤gb225));replace HBW:=Aside0.mk (below_step HBW.out hb);clear hb hbox hg))
 go_ret
 exact ⟨_,rfl,(show IsS62 w0 _ gb225 a0 0 from ⟨by (with_reducible repeat (first|apply zb1|apply zb2|apply zb3));exact BK225.out,GE225.out⟩),by repeat (first|(with_reducible first|exact HB.out|apply zl1|apply zl2|apply zl3|refine below_set ?_ GE225.out)|exact HB.out),by repeat (first|(with_reducible first|exact HBW.out|apply zl1|apply zl2|apply zl3|refine below_set ?_ GW225.out)|exact HBW.out)⟩

end Go.Proofs.YtokjbncjapndgaaDoor.PAll
