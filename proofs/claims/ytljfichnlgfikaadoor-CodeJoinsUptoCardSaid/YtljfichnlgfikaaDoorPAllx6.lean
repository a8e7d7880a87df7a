/- Printed walks of the functions that the laws reach: each function, what it computes, and that it does. No conditions. -/
import Derived.Test.YtljfichnlgfikaaDoorPAllx0
import Derived.Test.YtljfichnlgfikaaDoorPAllx1
import Derived.Test.YtljfichnlgfikaaDoorPAllx3
import Derived.Test.YtljfichnlgfikaaDoorPAllx5
namespace Go.Proofs.YtljfichnlgfikaaDoor.PAll
open Go.RowKit Go.Proofs.YtljfichnlgfikaaDoor.XW Go.Proofs.YtljfichnlgfikaaDoor.XLib Go.Proofs.YtljfichnlgfikaaDoorW.PrintWords Go.Proofs.YtljfichnlgfikaaDoorW.PrintLast Go.Proofs.YtljfichnlgfikaaDoorW.PrintMore
attribute [local go_sem] max2_int min2_int max_two min_two max_three min_three max_four min_four   -- for this text's walks alone
set_option linter.unusedVariables false
set_option linter.unusedSimpArgs false

attribute [local go_sem high] eqA40
/-! ### code_right: function 17 -/
def code_right.l0:Nat→Int→List Int→Int→Int→Int→Int→Int→Int→Int→Int→ByteArray→Option (Bool)
 | 0,_,_,_,_,_,_,_,_,_,_,_=>none
 | k + 1,x3,x18,x19,x20,x115000,x115001,x115002,x115003,x115004,x115005,x115006=>if x20 < x19 then (if 0≤x20 then (if x20 < (x18.length:Int) then (if (rd x18 x20) < 0 then (some false) else ((pack_Fits.f (IntKind.u64.wrap (rd x18 x20)) 1).bind fun t121=>(if t121=true then (if x20 ≥ x3 then (if (rd x18 x20)=0 then (code_right.l0 k x3 x18 x19 (wrap64 (x20 + 1)) x115000 x115001 x115002 x115003 x115004 x115005 x115006) else (some false)) else (code_right.l0 k x3 x18 x19 (wrap64 (x20 + 1)) x115000 x115001 x115002 x115003 x115004 x115005 x115006)) else (some false)))) else (none)) else (none)) else (if x115000=1 then ((keys_Write.f (([(⟨x115004,x115005,x115006⟩:S40)]:List (S40)))).bind fun bt125=>(if bt125.2=0 then (some (decide ((x115006.size:Int)≤10))) else (some false))) else (some (x115004 == 0 && (x115005 == 0 && (x115006.toList == ([]:List UInt8))))))
def code_right.f (k:Nat) (a0_0:Int) (a0_1:Int) (a0_2:Int) (a0_3:Int) (a0_4:Int) (a0_5:Int) (a0_6:ByteArray):Option (Bool):=(code_Operands.f a0_0).bind fun bt115=>(if bt115.2=true then ((code_list.f a0_0 a0_1 a0_2 a0_3 a0_4 a0_5 a0_6).bind fun t117=>(code_right.l0 k bt115.1 t117 (t117.length:Int) 0 a0_0 a0_1 a0_2 a0_3 a0_4 a0_5 a0_6)) else (some false))
theorem code_right.mono_l:∀ k,(∀ y0 y1 y2 y3 y4 y5 y6 y7 y8 y9 y10,LeO (code_right.l0 k y0 y1 y2 y3 y4 y5 y6 y7 y8 y9 y10) (code_right.l0 (k + 1) y0 y1 y2 y3 y4 y5 y6 y7 y8 y9 y10))
 | 0=>fun _ _ _ _ _ _ _ _ _ _ _ r h=>by simp [code_right.l0] at h
 | k + 1=>by
  have ih0:=code_right.mono_l k
  ·intro y0 y1 y2 y3 y4 y5 y6 y7 y8 y9 y10
   unfold code_right.l0
   repeat' first
   | (with_reducible exact ih0 _ _ _ _ _ _ _ _ _ _ _)
   | (with_reducible exact LeO.refl _)
   | (with_reducible exact LeO.none _)
   | (with_reducible refine LeO.ite ?_ ?_)
   | (with_reducible refine LeO.bind ?_ (fun _=>?_))
   | exact ih0 _ _ _ _ _ _ _ _ _ _ _
   | exact LeO.none _
   | refine LeO.ite ?_ ?_
   | refine LeO.bind ?_ (fun _=>?_)
theorem code_right.mono:∀ a0 a1 a2 a3 a4 a5 a6 k,LeO (code_right.f k a0 a1 a2 a3 a4 a5 a6) (code_right.f (k + 1) a0 a1 a2 a3 a4 a5 a6):=by
 intro a0 a1 a2 a3 a4 a5 a6 k
 have ih0:=code_right.mono_l k
 unfold code_right.f
 repeat' first
   | (with_reducible exact ih0 _ _ _ _ _ _ _ _ _ _ _)
   | (with_reducible exact LeO.refl _)
   | (with_reducible exact LeO.none _)
   | (with_reducible refine LeO.ite ?_ ?_)
   | (with_reducible refine LeO.bind ?_ (fun _=>?_))
   | exact ih0 _ _ _ _ _ _ _ _ _ _ _
   | exact LeO.none _
   | refine LeO.ite ?_ ?_
   | refine LeO.bind ?_ (fun _=>?_)
set_option maxHeartbeats 8000000 in
set_option maxRecDepth 100000 in
theorem code_right.calls (k:Nat) (a0_0:Int) (a0_1:Int) (a0_2:Int) (a0_3:Int) (a0_4:Int) (a0_5:Int) (a0_6:ByteArray) (r:Bool) (w:World) (h:code_right.f k a0_0 a0_1 a0_2 a0_3 a0_4 a0_5 a0_6=some r) :
  Calls Tryd.prog 17 #[.agg #[.int .i64 a0_0,.int .i64 a0_1,.int .i64 a0_2,.int .i64 a0_3,.int .i64 a0_4,.int .i64 a0_5,.string a0_6]] w fun e w'=>e=.returned (.bool r)∧Below w.heap.size w w':=by
 have hu42:=Tryd.underlying42
 have hu40:=Tryd.underlying40
 have HB:=Aside0.mk (Below.refl w.heap.size w)
 have H:((code_Operands.f a0_0).bind fun bt115=>(if bt115.2=true then ((code_list.f a0_0 a0_1 a0_2 a0_3 a0_4 a0_5 a0_6).bind fun t117=>(code_right.l0 k bt115.1 t117 (t117.length:Int) 0 a0_0 a0_1 a0_2 a0_3 a0_4 a0_5 a0_6)) else (some false)))=some r:=h
 clear h
 replace H:=Option.bind_eq_some_iff.mp H
 obtain ⟨⟨t115,t116⟩,A20,H⟩:=H
 replace H:(if t116=true then ((code_list.f a0_0 a0_1 a0_2 a0_3 a0_4 a0_5 a0_6).bind fun t117=>(code_right.l0 k t115 t117 (t117.length:Int) 0 a0_0 a0_1 a0_2 a0_3 a0_4 a0_5 a0_6)) else (some false))=some r:=H
 have A2:=Aside0.mk A20
 clear A20
 by_cases c3:t116=true
 ·subst c3
  have H1:((code_list.f a0_0 a0_1 a0_2 a0_3 a0_4 a0_5 a0_6).bind fun t117=>(code_right.l0 k t115 t117 (t117.length:Int) 0 a0_0 a0_1 a0_2 a0_3 a0_4 a0_5 a0_6))=some r:=by rw [if_pos rfl] at H;exact H
  clear H
  have H:=H1
  clear H1
  replace H:=Option.bind_eq_some_iff.mp H
  obtain ⟨t117,A40,H⟩:=H
  replace H:(code_right.l0 k t115 t117 (t117.length:Int) 0 a0_0 a0_1 a0_2 a0_3 a0_4 a0_5 a0_6)=some r:=H
  have A4:=Aside0.mk A40
  clear A40
  have H':=Aside0.mk H
  clear H
  go_enter Tryd.func17,Tryd.ntmps17
  go_wp2_with (first|((with_reducible refine gate_dst (N:=1) rfl ?_);(try (refine gate_guard (by rfl) ?_;dsimp only));refine box_event ?hg (N:=1) ?hd (cs:=#[.int .i64 a0_0,.int .i64 a0_1,.int .i64 a0_2,.int .i64 a0_3,.int .i64 a0_4,.int .i64 a0_5,.string a0_6]) (t:=42) ?hr ?_;(case hd=>rfl);(case hg=>rfl);(case hr=>first|(go_simp;done)|(go_simp;rfl));intro gb114 hg w5 hbox hb;have BK114:=Aside0.mk (hbox);have GW114:=Aside0.mk ((by rw [hg];exact (below_size (by repeat (first|(with_reducible first|exact HB.out|apply zl1|apply zl2|apply zl3)|exact HB.out))):w.heap.size≤gb114));have GE114:=Aside0.mk ((by rw [hg];exact (below_size (by repeat (first|(with_reducible first|exact HB.out|apply zl1|apply zl2|apply zl3)|exact HB.out))):w.heap.size≤gb114));replace HB:=Aside0.mk (below_step (by repeat (first|(with_reducible first|exact HB.out|apply zl1|apply zl2|apply zl3)|exact HB.out)) hb);clear hb hbox hg;obtain ⟨hcz6_0,hcz6_1,hcz6_2,hcz6_3,hcz6_4,hcz6_5,hcz6_6⟩:=zc7 BK114.out;obtain ⟨hfz6_0,hfz6_1,hfz6_2,hfz6_3,hfz6_4,hfz6_5,hfz6_6⟩:=zf7 BK114.out)|((with_reducible refine gate_callee (f:=14) rfl ?_);refine goesL_ (some 12) rfl rfl Tryd.func14 (by kernel_rfl) rfl #[.int .i64 a0_0] rfl (by (try simp only [List.map_toArray,List.map_cons,List.map_nil]);first|done|rfl|(simp only [List.length_drop,List.length_take];rfl)|(simp (disch:=omega) only [u64_in];rfl)) ?_;(with_reducible refine (code_Operands.calls a0_0 t115 true _ A2.out).mono ?_);rintro e w7 ⟨rfl,hb⟩;refine ⟨_,rfl,?_⟩;replace BK114:=Aside0.mk (blk_below (g:=gb114) (o:=.cells #[.int .i64 a0_0,.int .i64 a0_1,.int .i64 a0_2,.int .i64 a0_3,.int .i64 a0_4,.int .i64 a0_5,.string a0_6] 42 (0,0)) (by (with_reducible repeat (first|apply zb1|apply zb2|apply zb3));exact BK114.out) hb);replace HB:=Aside0.mk (below_step (by repeat (first|(with_reducible first|exact HB.out|apply zl1|apply zl2|apply zl3|refine below_set ?_ GE114.out)|exact HB.out)) hb);(try clear hb);obtain ⟨hcz8_0,hcz8_1,hcz8_2,hcz8_3,hcz8_4,hcz8_5,hcz8_6⟩:=zc7 BK114.out;obtain ⟨hfz8_0,hfz8_1,hfz8_2,hfz8_3,hfz8_4,hfz8_5,hfz8_6⟩:=zf7 BK114.out)|((with_reducible refine gate_callee (f:=29) rfl ?_);refine goesL_ (some 18) rfl rfl Tryd.func29 (by kernel_rfl) rfl #[.agg #[.int .i64 a0_0,.int .i64 a0_1,.int .i64 a0_2,.int .i64 a0_3,.int .i64 a0_4,.int .i64 a0_5,.string a0_6]] rfl (by (try simp only [List.map_toArray,List.map_cons,List.map_nil]);first|done|rfl|(simp only [List.length_drop,List.length_take];rfl)|(simp (disch:=omega) only [u64_in];rfl)) ?_;(with_reducible refine (code_list.calls a0_0 a0_1 a0_2 a0_3 a0_4 a0_5 a0_6 t117 _ A4.out).mono ?_);rintro e w9 ⟨v118,rfl,ho0,hb⟩;refine ⟨_,rfl,?_⟩;have HO119:=Aside0.mk (Kd.R_lower ho0 (below_size (by repeat (first|(with_reducible first|exact HB.out|apply zl1|apply zl2|apply zl3|refine below_set ?_ GE114.out)|exact HB.out))));replace BK114:=Aside0.mk (blk_below (g:=gb114) (o:=.cells #[.int .i64 a0_0,.int .i64 a0_1,.int .i64 a0_2,.int .i64 a0_3,.int .i64 a0_4,.int .i64 a0_5,.string a0_6] 42 (0,0)) (by (with_reducible repeat (first|apply zb1|apply zb2|apply zb3));exact BK114.out) hb);replace HB:=Aside0.mk (below_step (by repeat (first|(with_reducible first|exact HB.out|apply zl1|apply zl2|apply zl3|refine below_set ?_ GE114.out)|exact HB.out)) hb);(try clear hb);(try clear ho0);obtain ⟨Ao10,co10,eo10⟩:=Kd.R_slice HO119.out;subst eo10))
  go_loopg [20] k (fun kq v20 w'=>∃ (x20_1:Int),v20=.int .i64 x20_1∧Aside0 (code_right.l0 kq t115 t117 (t117.length:Int) x20_1 a0_0 a0_1 a0_2 a0_3 a0_4 a0_5 a0_6=some r)∧Aside0 (kq≤k)∧Aside0 (Kd.R (Kd.int .i64) 3 w' w.heap.size (fun _=>True) (.slice Ao10 t117.length co10) t117)∧Aside0 (w'.heap[gb114]?=some (.cells #[.int .i64 a0_0,.int .i64 a0_1,.int .i64 a0_2,.int .i64 a0_3,.int .i64 a0_4,.int .i64 a0_5,.string a0_6] 42 (0,0)))∧Aside0 (Below w.heap.size w w'))
  case atStart=>exact ⟨(0),(by first|(with_reducible rfl)|(simp;done)|(simp [*];done)|rfl|(simp only [not_isEmpty_bne])),H',⟨Nat.le_refl _⟩,⟨by (with_reducible repeat (first|apply zk1|apply zk2|apply zk3));exact HO119.out⟩,⟨by (with_reducible repeat (first|apply zb1|apply zb2|apply zb3));exact BK114.out⟩,⟨by repeat (first|(with_reducible first|exact HB.out|apply zl1|apply zl2|apply zl3|refine below_set ?_ GE114.out)|exact HB.out)⟩⟩
  case round =>
   clear H'
   try clear hfz6_0 hfz6_1 hfz6_2 hfz6_3 hfz6_4 hfz6_5 hfz6_6 hfz8_0 hfz8_1 hfz8_2 hfz8_3 hfz8_4
   try clear hcz6_0 hcz6_1 hcz6_2 hcz6_3 hcz6_4 hcz6_5 hcz6_6 hcz8_0 hcz8_1 hcz8_2 hcz8_3 hcz8_4 hcz8_5 hcz8_6
   try clear c1
   try clear c2
   try clear p2
   try clear c3
   try clear hfz8_5 hfz8_6
   obtain ⟨x20_1,rfl,HA,HK1,HO_18,BK114,HB⟩:=hrel
   cases gk with
   | zero=>exact absurd HA.out (by simp [code_right.l0])
   | succ k1 =>
    have H:=HA.out
    clear HA
    simp only [code_right.l0] at H
    by_cases c11:x20_1 < (t117.length:Int)
    ·rw [if_pos c11] at H
     have c11b0:decide (x20_1 < (t117.length:Int))=true:=decide_eq_true c11
     clear c11
     by_cases c12:0≤x20_1
     ·rw [if_pos c12] at H
      have c12b0:decide (0≤x20_1)=true:=decide_eq_true c12
      clear c12
      by_cases c13:x20_1 < (t117.length:Int)
      ·rw [if_pos c13] at H
       have c13b0:decide (x20_1 < (t117.length:Int))=true:=decide_eq_true c13
       clear c13
       by_cases c14:(rd t117 x20_1) < 0
       ·rw [if_pos c14] at H
        have c14b0:decide ((rd t117 x20_1) < 0)=true:=decide_eq_true c14
        clear c14
        obtain rfl:=Option.some.inj H
        have p120:0≤(x20_1:Int):=of_decide_eq_true (by first|(with_reducible assumption)|assumption)
        have q120:x20_1 < (t117.length:Int):=of_decide_eq_true (by first|(with_reducible assumption)|assumption)
        obtain ⟨ad120,e120,hx120_0⟩:=Kd.at_int (Kd.R_reads' HO_18.out).2.2 x20_1 p120 q120
        cases e120
        replace p120:=eq_true p120
        replace q120:=eq_true q120
        go_wp2
        go_ret
        exact ⟨by first|(with_reducible rfl)|(simp only [isEmpty_bne,Bool.not_not] <;> rfl)|rfl|(simp [*,errW_none,errW_some] <;> rfl),by repeat (first|(with_reducible first|exact HB.out|apply zl1|apply zl2|apply zl3|refine below_set ?_ GE114.out)|exact HB.out)⟩
       ·rw [if_neg c14] at H
        have c14b0:decide ((rd t117 x20_1) < 0)=false:=decide_eq_false c14
        clear c14
        replace H:=Option.bind_eq_some_iff.mp H
        obtain ⟨t121,A150,H⟩:=H
        replace H:(if t121=true then (if x20_1 ≥ t115 then (if (rd t117 x20_1)=0 then (code_right.l0 k1 t115 t117 (t117.length:Int) (wrap64 (x20_1 + 1)) a0_0 a0_1 a0_2 a0_3 a0_4 a0_5 a0_6) else (some false)) else (code_right.l0 k1 t115 t117 (t117.length:Int) (wrap64 (x20_1 + 1)) a0_0 a0_1 a0_2 a0_3 a0_4 a0_5 a0_6)) else (some false))=some r:=H
        have A15:=Aside0.mk A150
        clear A150
        by_cases c16:t121=true
        ·subst c16
         have H1:(if x20_1 ≥ t115 then (if (rd t117 x20_1)=0 then (code_right.l0 k1 t115 t117 (t117.length:Int) (wrap64 (x20_1 + 1)) a0_0 a0_1 a0_2 a0_3 a0_4 a0_5 a0_6) else (some false)) else (code_right.l0 k1 t115 t117 (t117.length:Int) (wrap64 (x20_1 + 1)) a0_0 a0_1 a0_2 a0_3 a0_4 a0_5 a0_6))=some r:=by rw [if_pos rfl] at H;exact H
         clear H
         have H:=H1
         clear H1
         by_cases c17:x20_1 ≥ t115
         ·rw [if_pos c17] at H
          have c17b0:decide (t115≤x20_1)=true:=decide_eq_true c17
          clear c17
          by_cases c18:(rd t117 x20_1)=0
          ·rw [if_pos c18] at H
           have c18b0:((rd t117 x20_1) == 0)=true:=beq_iff_eq.mpr c18
           have c18b1:((rd t117 x20_1) != 0)=false:=bne_eq_false_iff_eq.mpr c18
           clear c18
           have H':=Aside0.mk H
           clear H
           have p120:0≤(x20_1:Int):=of_decide_eq_true (by first|(with_reducible assumption)|assumption)
           have q120:x20_1 < (t117.length:Int):=of_decide_eq_true (by first|(with_reducible assumption)|assumption)
           obtain ⟨ad120,e120,hx120_0⟩:=Kd.at_int (Kd.R_reads' HO_18.out).2.2 x20_1 p120 q120
           cases e120
           replace p120:=eq_true p120
           replace q120:=eq_true q120
           go_wp2_with (first|(go_at_call 30;(with_reducible refine (pack_Fits.calls (IntKind.u64.wrap (rd t117 x20_1)) 1 true _ A15.out).mono ?_);rintro e w19 ⟨rfl,hb⟩;replace HO_18:=Aside0.mk (Kd.R_below (by (with_reducible repeat (first|apply zk1|apply zk2|apply zk3));exact HO_18.out) hb);replace BK114:=Aside0.mk (blk_below (g:=gb114) (o:=.cells #[.int .i64 a0_0,.int .i64 a0_1,.int .i64 a0_2,.int .i64 a0_3,.int .i64 a0_4,.int .i64 a0_5,.string a0_6] 42 (0,0)) (by (with_reducible repeat (first|apply zb1|apply zb2|apply zb3));exact BK114.out) hb);replace HB:=Aside0.mk (below_step (by repeat (first|(with_reducible first|exact HB.out|apply zl1|apply zl2|apply zl3|refine below_set ?_ GE114.out)|exact HB.out)) hb);(try clear hb)))
           go_roundg k1
           case measure=>have:=HK1.out;omega
           case rel=>exact ⟨(wrap64 (x20_1 + 1)),(by first|(with_reducible rfl)|(simp;done)|(simp [*];done)|rfl|(simp only [not_isEmpty_bne])),H',⟨by have:=HK1.out;omega⟩,⟨by (with_reducible repeat (first|apply zk1|apply zk2|apply zk3));exact HO_18.out⟩,⟨by (with_reducible repeat (first|apply zb1|apply zb2|apply zb3));exact BK114.out⟩,⟨by repeat (first|(with_reducible first|exact HB.out|apply zl1|apply zl2|apply zl3|refine below_set ?_ GE114.out)|exact HB.out)⟩⟩
          ·rw [if_neg c18] at H
           have c18b0:((rd t117 x20_1) == 0)=false:=beq_eq_false_iff_ne.mpr c18
           have c18b1:((rd t117 x20_1) != 0)=true:=bne_iff_ne.mpr c18
           obtain rfl:=Option.some.inj H
           have p120:0≤(x20_1:Int):=of_decide_eq_true (by first|(with_reducible assumption)|assumption)
           have q120:x20_1 < (t117.length:Int):=of_decide_eq_true (by first|(with_reducible assumption)|assumption)
           obtain ⟨ad120,e120,hx120_0⟩:=Kd.at_int (Kd.R_reads' HO_18.out).2.2 x20_1 p120 q120
           cases e120
           replace p120:=eq_true p120
           replace q120:=eq_true q120
           go_wp2_with (first|(go_at_call 30;(with_reducible refine (pack_Fits.calls (IntKind.u64.wrap (rd t117 x20_1)) 1 true _ A15.out).mono ?_);rintro e w20 ⟨rfl,hb⟩;replace HO_18:=Aside0.mk (Kd.R_below (by (with_reducible repeat (first|apply zk1|apply zk2|apply zk3));exact HO_18.out) hb);replace BK114:=Aside0.mk (blk_below (g:=gb114) (o:=.cells #[.int .i64 a0_0,.int .i64 a0_1,.int .i64 a0_2,.int .i64 a0_3,.int .i64 a0_4,.int .i64 a0_5,.string a0_6] 42 (0,0)) (by (with_reducible repeat (first|apply zb1|apply zb2|apply zb3));exact BK114.out) hb);replace HB:=Aside0.mk (below_step (by repeat (first|(with_reducible first|exact HB.out|apply zl1|apply zl2|apply zl3|refine below_set ?_ GE114.out)|exact HB.out)) hb);(try clear hb)))
           go_ret
           exact ⟨by first|(with_reducible rfl)|(simp only [isEmpty_bne,Bool.not_not] <;> rfl)|rfl|(simp [*,errW_none,errW_some] <;> rfl),by repeat (first|(with_reducible first|exact HB.out|apply zl1|apply zl2|apply zl3|refine below_set ?_ GE114.out)|exact HB.out)⟩
         ·rw [if_neg c17] at H
          have c17b0:decide (t115≤x20_1)=false:=decide_eq_false c17
          clear c17
          have H':=Aside0.mk H
          clear H
          have p120:0≤(x20_1:Int):=of_decide_eq_true (by first|(with_reducible assumption)|assumption)
          have q120:x20_1 < (t117.length:Int):=of_decide_eq_true (by first|(with_reducible assumption)|assumption)
          obtain ⟨ad120,e120,hx120_0⟩:=Kd.at_int (Kd.R_reads' HO_18.out).2.2 x20_1 p120 q120
          cases e120
          replace p120:=eq_true p120
          replace q120:=eq_true q120
          go_wp2_with (first|(go_at_call 30;(with_reducible refine (pack_Fits.calls (IntKind.u64.wrap (rd t117 x20_1)) 1 true _ A15.out).mono ?_);rintro e w21 ⟨rfl,hb⟩;replace HO_18:=Aside0.mk (Kd.R_below (by (with_reducible repeat (first|apply zk1|apply zk2|apply zk3));exact HO_18.out) hb);replace BK114:=Aside0.mk (blk_below (g:=gb114) (o:=.cells #[.int .i64 a0_0,.int .i64 a0_1,.int .i64 a0_2,.int .i64 a0_3,.int .i64 a0_4,.int .i64 a0_5,.string a0_6] 42 (0,0)) (by (with_reducible repeat (first|apply zb1|apply zb2|apply zb3));exact BK114.out) hb);replace HB:=Aside0.mk (below_step (by repeat (first|(with_reducible first|exact HB.out|apply zl1|apply zl2|apply zl3|refine below_set ?_ GE114.out)|exact HB.out)) hb);(try clear hb)))
          go_roundg k1
          case measure=>have:=HK1.out;omega
          case rel=>exact ⟨(wrap64 (x20_1 + 1)),(by first|(with_reducible rfl)|(simp;done)|(simp [*];done)|rfl|(simp only [not_isEmpty_bne])),H',⟨by have:=HK1.out;omega⟩,⟨by (with_reducible repeat (first|apply zk1|apply zk2|apply zk3));exact HO_18.out⟩,⟨by (with_reducible repeat (first|apply zb1|apply zb2|apply zb3));exact BK114.out⟩,⟨by repeat (first|(with_reducible first|exact HB.out|apply zl1|apply zl2|apply zl3|refine below_set ?_ GE114.out)|exact HB.out)⟩⟩
        ·replace c16:=Bool.eq_false_iff.mpr c16
         subst c16
         have H1:(some false)=some r:=by rw [if_neg (show ¬ (false=true) by decide)] at H;exact H
         clear H
         have H:=H1
         clear H1
         obtain rfl:=Option.some.inj H
         have p120:0≤(x20_1:Int):=of_decide_eq_true (by first|(with_reducible assumption)|assumption)
         have q120:x20_1 < (t117.length:Int):=of_decide_eq_true (by first|(with_reducible assumption)|assumption)
         obtain ⟨ad120,e120,hx120_0⟩:=Kd.at_int (Kd.R_reads' HO_18.out).2.2 x20_1 p120 q120
         cases e120
         replace p120:=eq_true p120
         replace q120:=eq_true q120
         go_wp2_with (first|(go_at_call 30;(with_reducible refine (pack_Fits.calls (IntKind.u64.wrap (rd t117 x20_1)) 1 false _ A15.out).mono ?_);rintro e w22 ⟨rfl,hb⟩;replace HO_18:=Aside0.mk (Kd.R_below (by (with_reducible repeat (first|apply zk1|apply zk2|apply zk3));exact HO_18.out) hb);replace BK114:=Aside0.mk (blk_below (g:=gb114) (o:=.cells #[.int .i64 a0_0,.int .i64 a0_1,.int .i64 a0_2,.int .i64 a0_3,.int .i64 a0_4,.int .i64 a0_5,.string a0_6] 42 (0,0)) (by (with_reducible repeat (first|apply zb1|apply zb2|apply zb3));exact BK114.out) hb);replace HB:=Aside0.mk (below_step (by repeat (first|(with_reducible first|exact HB.out|apply zl1|apply zl2|apply zl3|refine below_set ?_ GE114.out)|exact HB.out)) hb);(try clear hb)))
         go_ret
         exact ⟨by first|(with_reducible rfl)|(simp only [isEmpty_bne,Bool.not_not] <;> rfl)|rfl|(simp [*,errW_none,errW_some] <;> rfl),by repeat (first|(with_reducible first|exact HB.out|apply zl1|apply zl2|apply zl3|refine below_set ?_ GE114.out)|exact HB.out)⟩
      ·rw [if_neg c13] at H
       exact absurd H (by simp)
     ·rw [if_neg c12] at H
      exact absurd H (by simp)
    ·rw [if_neg c11] at H
     have c11b0:decide (x20_1 < (t117.length:Int))=false:=decide_eq_false c11
     clear c11
     by_cases c23:a0_0=1
     ·rw [if_pos c23] at H
      have c23b0:(a0_0 == 1)=true:=beq_iff_eq.mpr c23
      have c23b1:(a0_0 != 1)=false:=bne_eq_false_iff_eq.mpr c23
      clear c23
      obtain ⟨y122,hy122⟩:∃ y_:List (S40),y_=(([(⟨a0_4,a0_5,a0_6⟩:S40)]:List (S40))):=⟨_,rfl⟩
      replace H:((keys_Write.f y122).bind fun bt125=>(if bt125.2=0 then (some (decide ((a0_6.size:Int)≤10))) else (some false)))=some r:=by first|(rw [hy122];with_reducible exact H)|(have H2_:=(Option.bind_some _ _).symm.trans H;rw [hy122];with_reducible exact H2_)|(have H2_:=(Option.bind_some _ _).symm.trans H;with_reducible exact H2_)|with_reducible exact H|(rw [hy122];exact H)|exact H
      have Ny122:=Aside0.mk hy122
      clear hy122
      replace H:=Option.bind_eq_some_iff.mp H
      obtain ⟨⟨t125,t126⟩,A240,H⟩:=H
      replace H:(if t126=0 then (some (decide ((a0_6.size:Int)≤10))) else (some false))=some r:=H
      have A24:=Aside0.mk A240
      clear A240
      by_cases c25:t126=0
      ·rw [if_pos c25] at H
       have c25b0:(t126 == 0)=true:=beq_iff_eq.mpr c25
       have c25b1:(t126 != 0)=false:=bne_eq_false_iff_eq.mpr c25
       clear c25
       obtain rfl:=Option.some.inj H
       obtain ⟨hcz26_0,hcz26_1,hcz26_2,hcz26_3,hcz26_4,hcz26_5,hcz26_6⟩:=zc7 BK114.out
       obtain ⟨hfz26_0,hfz26_1,hfz26_2,hfz26_3,hfz26_4,hfz26_5,hfz26_6⟩:=zf7 BK114.out
       go_wp2_with (first|((with_reducible refine gate_dst (N:=53) rfl ?_);(try (refine gate_guard (by rfl) ?_;dsimp only));refine Kd.R_lit k40 _ 40 ?hg (N:=53) ?hd (xs:=([(⟨a0_4,a0_5,a0_6⟩:S40)]:List (S40))) (inner:=[.int .i64 a0_4,.int .i64 a0_5,.string a0_6]) (ok:=fun _=>True) (okp:=fun _=>True) ?hr ?hp (fun _ hk=>hk) trivial (Below.refl _ _) (Nat.le_refl _) (by simp) ?_;(case hd=>rfl);(case hg=>rfl);(case hr=>first|(go_simp;done)|(go_simp;rfl));(case hp=>exact (Reps.c3 (show Kd.M k40 _ _ _ (⟨a0_4,a0_5,a0_6⟩:S40) [.int .i64 a0_4,.int .i64 a0_5,.string a0_6] from (k40_mkM _ _ _ (⟨a0_4,a0_5,a0_6⟩:S40) )) (Reps.none _ _)));intro v123 w27 ho28 hb hg_ hnew_;clear hg_ hnew_;(first|rw [← Ny122.out] at ho28|(simp only [Int.reduceToNat] at ho28;rw [← Ny122.out] at ho28));replace HO_18:=Aside0.mk (Kd.R_below (by (with_reducible repeat (first|apply zk1|apply zk2|apply zk3));exact HO_18.out) hb);have HO124:=Aside0.mk (Kd.R_lower ho28 (below_size (by repeat (first|(with_reducible first|exact HB.out|apply zl1|apply zl2|apply zl3|refine below_set ?_ GE114.out)|exact HB.out))));replace BK114:=Aside0.mk (blk_below (g:=gb114) (o:=.cells #[.int .i64 a0_0,.int .i64 a0_1,.int .i64 a0_2,.int .i64 a0_3,.int .i64 a0_4,.int .i64 a0_5,.string a0_6] 42 (0,0)) (by (with_reducible repeat (first|apply zb1|apply zb2|apply zb3));exact BK114.out) hb);replace HB:=Aside0.mk (below_step (by repeat (first|(with_reducible first|exact HB.out|apply zl1|apply zl2|apply zl3|refine below_set ?_ GE114.out)|exact HB.out)) hb);clear hb ho28;obtain ⟨Ao29,co29,eo29⟩:=Kd.R_slice HO124.out;subst eo29)|((with_reducible refine gate_callee (f:=31) rfl ?_);refine goesL_ (some 54) rfl rfl Tryd.func31 (by kernel_rfl) rfl #[.slice Ao29 y122.length co29] rfl (by (try simp only [List.map_toArray,List.map_cons,List.map_nil]);first|done|rfl|(simp only [List.length_drop,List.length_take];rfl)|(simp (disch:=omega) only [u64_in];rfl)) ?_;(with_reducible refine (keys_Write.calls _ _ y122 t125 t126 _ ?side1 ?side2 A24.out).mono ?_);(case side1=>repeat (first|exact (Kd.R_reads' HO124.out).2.2|(with_reducible refine Kd.C_alloc ?_ _)|(with_reducible refine Kd.C_drewN ?_ _)|(with_reducible refine Kd.C_drew ?_)));(case side2=>exact (Kd.R_reads' HO124.out).2.1);rintro e w30 ⟨rfl,hb⟩;refine ⟨_,rfl,?_⟩;replace HO_18:=Aside0.mk (Kd.R_below (by (with_reducible repeat (first|apply zk1|apply zk2|apply zk3));exact HO_18.out) hb);replace HO124:=Aside0.mk (Kd.R_below (by (with_reducible repeat (first|apply zk1|apply zk2|apply zk3));exact HO124.out) hb);replace BK114:=Aside0.mk (blk_below (g:=gb114) (o:=.cells #[.int .i64 a0_0,.int .i64 a0_1,.int .i64 a0_2,.int .i64 a0_3,.int .i64 a0_4,.int .i64 a0_5,.string a0_6] 42 (0,0)) (by (with_reducible repeat (first|apply zb1|apply zb2|apply zb3));exact BK114.out) hb);replace HB:=Aside0.mk (below_step (by repeat (first|(with_reducible first|exact HB.out|apply zl1|apply zl2|apply zl3|refine below_set ?_ GE114.out)|exact HB.out)) hb);(try clear hb);obtain ⟨hcz31_0,hcz31_1,hcz31_2,hcz31_3,hcz31_4,hcz31_5,hcz31_6⟩:=zc7 BK114.out;obtain ⟨hfz31_0,hfz31_1,hfz31_2,hfz31_3,hfz31_4,hfz31_5,hfz31_6⟩:=zf7 BK114.out))
       go_ret
       exact ⟨by first|(with_reducible rfl)|(simp only [isEmpty_bne,Bool.not_not] <;> rfl)|rfl|(simp [*,errW_none,errW_some] <;> rfl),by repeat (first|(with_reducible first|exact HB.out|apply zl1|apply zl2|apply zl3|refine below_set ?_ GE114.out)|exact HB.out)⟩
      ·rw [if_neg c25] at H
       have c25b0:(t126 == 0)=false:=beq_eq_false_iff_ne.mpr c25
       have c25b1:(t126 != 0)=true:=bne_iff_ne.mpr c25
       obtain rfl:=Option.some.inj H
       obtain ⟨hcz32_0,hcz32_1,hcz32_2,hcz32_3,hcz32_4,hcz32_5,hcz32_6⟩:=zc7 BK114.out
       obtain ⟨hfz32_0,hfz32_1,hfz32_2,hfz32_3,hfz32_4,hfz32_5,hfz32_6⟩:=zf7 BK114.out
       go_wp2_with (first|((with_reducible refine gate_dst (N:=53) rfl ?_);(try (refine gate_guard (by rfl) ?_;dsimp only));refine Kd.R_lit k40 _ 40 ?hg (N:=53) ?hd (xs:=([(⟨a0_4,a0_5,a0_6⟩:S40)]:List (S40))) (inner:=[.int .i64 a0_4,.int .i64 a0_5,.string a0_6]) (ok:=fun _=>True) (okp:=fun _=>True) ?hr ?hp (fun _ hk=>hk) trivial (Below.refl _ _) (Nat.le_refl _) (by simp) ?_;(case hd=>rfl);(case hg=>rfl);(case hr=>first|(go_simp;done)|(go_simp;rfl));(case hp=>exact (Reps.c3 (show Kd.M k40 _ _ _ (⟨a0_4,a0_5,a0_6⟩:S40) [.int .i64 a0_4,.int .i64 a0_5,.string a0_6] from (k40_mkM _ _ _ (⟨a0_4,a0_5,a0_6⟩:S40) )) (Reps.none _ _)));intro v123 w33 ho34 hb hg_ hnew_;clear hg_ hnew_;(first|rw [← Ny122.out] at ho34|(simp only [Int.reduceToNat] at ho34;rw [← Ny122.out] at ho34));replace HO_18:=Aside0.mk (Kd.R_below (by (with_reducible repeat (first|apply zk1|apply zk2|apply zk3));exact HO_18.out) hb);have HO124:=Aside0.mk (Kd.R_lower ho34 (below_size (by repeat (first|(with_reducible first|exact HB.out|apply zl1|apply zl2|apply zl3|refine below_set ?_ GE114.out)|exact HB.out))));replace BK114:=Aside0.mk (blk_below (g:=gb114) (o:=.cells #[.int .i64 a0_0,.int .i64 a0_1,.int .i64 a0_2,.int .i64 a0_3,.int .i64 a0_4,.int .i64 a0_5,.string a0_6] 42 (0,0)) (by (with_reducible repeat (first|apply zb1|apply zb2|apply zb3));exact BK114.out) hb);replace HB:=Aside0.mk (below_step (by repeat (first|(with_reducible first|exact HB.out|apply zl1|apply zl2|apply zl3|refine below_set ?_ GE114.out)|exact HB.out)) hb);clear hb ho34;obtain ⟨Ao35,co35,eo35⟩:=Kd.R_slice HO124.out;subst eo35)|((with_reducible refine gate_callee (f:=31) rfl ?_);refine goesL_ (some 54) rfl rfl Tryd.func31 (by kernel_rfl) rfl #[.slice Ao35 y122.length co35] rfl (by (try simp only [List.map_toArray,List.map_cons,List.map_nil]);first|done|rfl|(simp only [List.length_drop,List.length_take];rfl)|(simp (disch:=omega) only [u64_in];rfl)) ?_;(with_reducible refine (keys_Write.calls _ _ y122 t125 t126 _ ?side1 ?side2 A24.out).mono ?_);(case side1=>repeat (first|exact (Kd.R_reads' HO124.out).2.2|(with_reducible refine Kd.C_alloc ?_ _)|(with_reducible refine Kd.C_drewN ?_ _)|(with_reducible refine Kd.C_drew ?_)));(case side2=>exact (Kd.R_reads' HO124.out).2.1);rintro e w36 ⟨rfl,hb⟩;refine ⟨_,rfl,?_⟩;replace HO_18:=Aside0.mk (Kd.R_below (by (with_reducible repeat (first|apply zk1|apply zk2|apply zk3));exact HO_18.out) hb);replace HO124:=Aside0.mk (Kd.R_below (by (with_reducible repeat (first|apply zk1|apply zk2|apply zk3));exact HO124.out) hb);replace BK114:=Aside0.mk (blk_below (g:=gb114) (o:=.cells #[.int .i64 a0_0,.int .i64 a0_1,.int .i64 a0_2,.int .i64 a0_3,.int .i64 a0_4,.int .i64 a0_5,.string a0_6] 42 (0,0)) (by (with_reducible repeat (first|apply zb1|apply zb2|apply zb3));exact BK114.out) hb);replace HB:=Aside0.mk (below_step (by repeat (first|(with_reducible first|exact HB.out|apply zl1|apply zl2|apply zl3|refine below_set ?_ GE114.out)|exact HB.out)) hb);(try clear hb)))
       go_ret
       exact ⟨by first|(with_reducible rfl)|(simp only [isEmpty_bne,Bool.not_not] <;> rfl)|rfl|(simp [*,errW_none,errW_some] <;> rfl),by repeat (first|(with_reducible first|exact HB.out|apply zl1|apply zl2|apply zl3|refine below_set ?_ GE114.out)|exact HB.out)⟩
     ·rw [if_neg c23] at H
      have c23b0:(a0_0 == 1)=false:=beq_eq_false_iff_ne.mpr c23
      have c23b1:(a0_0 != 1)=true:=bne_iff_ne.mpr c23
      obtain rfl:=Option.some.inj H
      obtain ⟨hcz37_0,hcz37_1,hcz37_2,hcz37_3,hcz37_4,hcz37_5,hcz37_6⟩:=zc7 BK114.out
      obtain ⟨hfz37_0,hfz37_1,hfz37_2,hfz37_3,hfz37_4,hfz37_5,hfz37_6⟩:=zf7 BK114.out
      go_wp2
      go_ret
      exact ⟨by first|(with_reducible rfl)|(simp only [isEmpty_bne,Bool.not_not] <;> rfl)|rfl|(simp [*,errW_none,errW_some] <;> rfl),by repeat (first|(with_reducible first|exact HB.out|apply zl1|apply zl2|apply zl3|refine below_set ?_ GE114.out)|exact HB.out)⟩
 ·replace c3:=Bool.eq_false_iff.mpr c3
  subst c3
  have H1:(some false)=some r:=by rw [if_neg (show ¬ (false=true) by decide)] at H;exact H
  clear H
  have H:=H1
  clear H1
  obtain rfl:=Option.some.inj H
  go_enter Tryd.func17,Tryd.ntmps17
  go_wp2_with (first|((with_reducible refine gate_dst (N:=1) rfl ?_);(try (refine gate_guard (by rfl) ?_;dsimp only));refine box_event ?hg (N:=1) ?hd (cs:=#[.int .i64 a0_0,.int .i64 a0_1,.int .i64 a0_2,.int .i64 a0_3,.int .i64 a0_4,.int .i64 a0_5,.string a0_6]) (t:=42) ?hr ?_;(case hd=>rfl);(case hg=>rfl);(case hr=>first|(go_simp;done)|(go_simp;rfl));intro gb114 hg w38 hbox hb;have BK114:=Aside0.mk (hbox);have GW114:=Aside0.mk ((by rw [hg];exact (below_size (by repeat (first|(with_reducible first|exact HB.out|apply zl1|apply zl2|apply zl3)|exact HB.out))):w.heap.size≤gb114));have GE114:=Aside0.mk ((by rw [hg];exact (below_size (by repeat (first|(with_reducible first|exact HB.out|apply zl1|apply zl2|apply zl3)|exact HB.out))):w.heap.size≤gb114));replace HB:=Aside0.mk (below_step (by repeat (first|(with_reducible first|exact HB.out|apply zl1|apply zl2|apply zl3)|exact HB.out)) hb);clear hb hbox hg;obtain ⟨hcz39_0,hcz39_1,hcz39_2,hcz39_3,hcz39_4,hcz39_5,hcz39_6⟩:=zc7 BK114.out;obtain ⟨hfz39_0,hfz39_1,hfz39_2,hfz39_3,hfz39_4,hfz39_5,hfz39_6⟩:=zf7 BK114.out)|((with_reducible refine gate_callee (f:=14) rfl ?_);refine goesL_ (some 12) rfl rfl Tryd.func14 (by kernel_rfl) rfl #[.int .i64 a0_0] rfl (by (try simp only [List.map_toArray,List.map_cons,List.map_nil]);first|done|rfl|(simp only [List.length_drop,List.length_take];rfl)|(simp (disch:=omega) only [u64_in];rfl)) ?_;(with_reducible refine (code_Operands.calls a0_0 t115 false _ A2.out).mono ?_);rintro e w40 ⟨rfl,hb⟩;refine ⟨_,rfl,?_⟩;replace BK114:=Aside0.mk (blk_below (g:=gb114) (o:=.cells #[.int .i64 a0_0,.int .i64 a0_1,.int .i64 a0_2,.int .i64 a0_3,.int .i64 a0_4,.int .i64 a0_5,.string a0_6] 42 (0,0)) (by (with_reducible repeat (first|apply zb1|apply zb2|apply zb3));exact BK114.out) hb);replace HB:=Aside0.mk (below_step (by repeat (first|(with_reducible first|exact HB.out|apply zl1|apply zl2|apply zl3|refine below_set ?_ GE114.out)|exact HB.out)) hb);(try clear hb)))
  go_ret
  exact ⟨by first|(with_reducible rfl)|(simp only [isEmpty_bne,Bool.not_not] <;> rfl)|rfl|(simp [*,errW_none,errW_some] <;> rfl),by repeat (first|(with_reducible first|exact HB.out|apply zl1|apply zl2|apply zl3|refine below_set ?_ GE114.out)|exact HB.out)⟩

end Go.Proofs.YtljfichnlgfikaaDoor.PAll
