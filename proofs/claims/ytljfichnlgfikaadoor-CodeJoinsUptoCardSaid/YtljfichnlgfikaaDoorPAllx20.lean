/- Printed walks of the functions that the laws reach: each function, what it computes, and that it does. No conditions. -/
import Derived.Test.YtljfichnlgfikaaDoorPAllx0
import Derived.Test.YtljfichnlgfikaaDoorPAllx15
import Derived.Test.YtljfichnlgfikaaDoorPAllx18
import Derived.Test.YtljfichnlgfikaaDoorPAllx19
namespace Go.Proofs.YtljfichnlgfikaaDoor.PAll
open Go.RowKit Go.Proofs.YtljfichnlgfikaaDoor.XW Go.Proofs.YtljfichnlgfikaaDoor.XLib Go.Proofs.YtljfichnlgfikaaDoorW.PrintWords Go.Proofs.YtljfichnlgfikaaDoorW.PrintLast Go.Proofs.YtljfichnlgfikaaDoorW.PrintMore
attribute [local go_sem] max2_int min2_int max_two min_two max_three min_three max_four min_four   -- for this text's walks alone
set_option linter.unusedVariables false
set_option linter.unusedSimpArgs false

/-! ### factotumref13_one: function 20 -/
def factotumref13_one.l0:Nat→Int→ByteArray→List Int→Int→Int→Int→Int→Int→Int→Int→ByteArray→Option (ByteArray)
 | 0,_,_,_,_,_,_,_,_,_,_,_=>none
 | k + 1,x3,x5,x6,x7,x208000,x208001,x208002,x208003,x208004,x208005,x208006=>if x7 < x3 then (if 0≤x7 then (if x7 < (x6.length:Int) then ((factotumref01_Num.f k (IntKind.u64.wrap (rd x6 x7)) 1).bind fun t215=>(if x5.size + t215.size≤9223372036854775807 then (factotumref13_one.l0 k x3 (x5 ++ t215) x6 (wrap64 (x7 + 1)) x208000 x208001 x208002 x208003 x208004 x208005 x208006) else (none))) else (none)) else (none)) else (if x208000=1 then ((factotumref01_Num.f k (IntKind.u64.wrap (x208004)) 1).bind fun t216=>(if x5.size + t216.size≤9223372036854775807 then (if x208004=1 then ((factotumref01_Num.f k (IntKind.u64.wrap (x208005)) 8).bind fun t217=>(if (x5 ++ t216).size + t217.size≤9223372036854775807 then (some ((x5 ++ t216) ++ t217)) else (none))) else ((factotumref01_Str.f k x208006).bind fun t218=>(if (x5 ++ t216).size + t218.size≤9223372036854775807 then (some ((x5 ++ t216) ++ t218)) else (none)))) else (none))) else (some x5))
def factotumref13_one.f (k:Nat) (a0_0:Int) (a0_1:Int) (a0_2:Int) (a0_3:Int) (a0_4:Int) (a0_5:Int) (a0_6:ByteArray):Option (ByteArray):=(factotumref13_Operands.f k a0_0).bind fun bt208=>((factotumref01_Num.f k (IntKind.u64.wrap (a0_0)) 1).bind fun t210=>(factotumref13_one.l0 k bt208.1 t210 (([a0_1,a0_2,a0_3]:List Int)) 0 a0_0 a0_1 a0_2 a0_3 a0_4 a0_5 a0_6))
theorem factotumref13_one.mono_l:∀ k,(∀ y0 y1 y2 y3 y4 y5 y6 y7 y8 y9 y10,LeO (factotumref13_one.l0 k y0 y1 y2 y3 y4 y5 y6 y7 y8 y9 y10) (factotumref13_one.l0 (k + 1) y0 y1 y2 y3 y4 y5 y6 y7 y8 y9 y10))
 | 0=>fun _ _ _ _ _ _ _ _ _ _ _ r h=>by simp [factotumref13_one.l0] at h
 | k + 1=>by
  have ih0:=factotumref13_one.mono_l k
  ·intro y0 y1 y2 y3 y4 y5 y6 y7 y8 y9 y10
   unfold factotumref13_one.l0
   repeat' first
   | (with_reducible exact ih0 _ _ _ _ _ _ _ _ _ _ _)
   | (with_reducible exact factotumref01_Num.mono _ _ _)
   | (with_reducible exact factotumref01_Str.mono _ _)
   | (with_reducible exact factotumref13_Operands.mono _ _)
   | (with_reducible exact LeO.refl _)
   | (with_reducible exact LeO.none _)
   | (with_reducible refine LeO.ite ?_ ?_)
   | (with_reducible refine LeO.bind ?_ (fun _=>?_))
   | exact ih0 _ _ _ _ _ _ _ _ _ _ _
   | exact factotumref01_Num.mono _ _ _
   | exact factotumref01_Str.mono _ _
   | exact factotumref13_Operands.mono _ _
   | exact LeO.none _
   | refine LeO.ite ?_ ?_
   | refine LeO.bind ?_ (fun _=>?_)
theorem factotumref13_one.mono:∀ a0 a1 a2 a3 a4 a5 a6 k,LeO (factotumref13_one.f k a0 a1 a2 a3 a4 a5 a6) (factotumref13_one.f (k + 1) a0 a1 a2 a3 a4 a5 a6):=by
 intro a0 a1 a2 a3 a4 a5 a6 k
 have ih0:=factotumref13_one.mono_l k
 unfold factotumref13_one.f
 repeat' first
   | (with_reducible exact ih0 _ _ _ _ _ _ _ _ _ _ _)
   | (with_reducible exact factotumref01_Num.mono _ _ _)
   | (with_reducible exact factotumref01_Str.mono _ _)
   | (with_reducible exact factotumref13_Operands.mono _ _)
   | (with_reducible exact LeO.refl _)
   | (with_reducible exact LeO.none _)
   | (with_reducible refine LeO.ite ?_ ?_)
   | (with_reducible refine LeO.bind ?_ (fun _=>?_))
   | exact ih0 _ _ _ _ _ _ _ _ _ _ _
   | exact factotumref01_Num.mono _ _ _
   | exact factotumref01_Str.mono _ _
   | exact factotumref13_Operands.mono _ _
   | exact LeO.none _
   | refine LeO.ite ?_ ?_
   | refine LeO.bind ?_ (fun _=>?_)
set_option maxHeartbeats 8000000 in
set_option maxRecDepth 100000 in
theorem factotumref13_one.calls (k:Nat) (a0_0:Int) (a0_1:Int) (a0_2:Int) (a0_3:Int) (a0_4:Int) (a0_5:Int) (a0_6:ByteArray) (r:ByteArray) (w:World) (h:factotumref13_one.f k a0_0 a0_1 a0_2 a0_3 a0_4 a0_5 a0_6=some r) :
  Calls Tryd.prog 20 #[.agg #[.int .i64 a0_0,.int .i64 a0_1,.int .i64 a0_2,.int .i64 a0_3,.int .i64 a0_4,.int .i64 a0_5,.string a0_6]] w fun e w'=>e=.returned (.string r)∧Below w.heap.size w w':=by
 have hu42:=Tryd.underlying42
 have HB:=Aside0.mk (Below.refl w.heap.size w)
 have H:((factotumref13_Operands.f k a0_0).bind fun bt208=>((factotumref01_Num.f k (IntKind.u64.wrap (a0_0)) 1).bind fun t210=>(factotumref13_one.l0 k bt208.1 t210 (([a0_1,a0_2,a0_3]:List Int)) 0 a0_0 a0_1 a0_2 a0_3 a0_4 a0_5 a0_6)))=some r:=h
 clear h
 replace H:=Option.bind_eq_some_iff.mp H
 obtain ⟨⟨t208,t209⟩,A20,H⟩:=H
 replace H:((factotumref01_Num.f k (IntKind.u64.wrap (a0_0)) 1).bind fun t210=>(factotumref13_one.l0 k t208 t210 (([a0_1,a0_2,a0_3]:List Int)) 0 a0_0 a0_1 a0_2 a0_3 a0_4 a0_5 a0_6))=some r:=H
 have A2:=Aside0.mk A20
 clear A20
 replace H:=Option.bind_eq_some_iff.mp H
 obtain ⟨t210,A30,H⟩:=H
 replace H:(factotumref13_one.l0 k t208 t210 (([a0_1,a0_2,a0_3]:List Int)) 0 a0_0 a0_1 a0_2 a0_3 a0_4 a0_5 a0_6)=some r:=H
 have A3:=Aside0.mk A30
 clear A30
 obtain ⟨y211,hy211⟩:∃ y_:List Int,y_=(([a0_1,a0_2,a0_3]:List Int)):=⟨_,rfl⟩
 replace H:(factotumref13_one.l0 k t208 t210 y211 0 a0_0 a0_1 a0_2 a0_3 a0_4 a0_5 a0_6)=some r:=by first|(rw [hy211];with_reducible exact H)|(have H2_:=(Option.bind_some _ _).symm.trans H;rw [hy211];with_reducible exact H2_)|(have H2_:=(Option.bind_some _ _).symm.trans H;with_reducible exact H2_)|with_reducible exact H|(rw [hy211];exact H)|exact H
 have Ny211:=Aside0.mk hy211
 clear hy211
 have H':=Aside0.mk H
 clear H
 go_enter Tryd.func20,Tryd.ntmps20
 go_wp2_with (first|((with_reducible refine gate_dst (N:=1) rfl ?_);refine box_event ?hg (N:=1) ?hd (cs:=#[.int .i64 a0_0,.int .i64 a0_1,.int .i64 a0_2,.int .i64 a0_3,.int .i64 a0_4,.int .i64 a0_5,.string a0_6]) (t:=42) ?hr ?_;(case hd=>rfl);(case hg=>rfl);(case hr=>first|(go_simp;done)|(go_simp;rfl));intro gb207 hg w4 hbox hb;have BK207:=Aside0.mk (hbox);have GW207:=Aside0.mk ((by rw [hg];exact (below_size (by repeat (first|(with_reducible first|exact HB.out|apply zl1|apply zl2|apply zl3)|exact HB.out))):w.heap.size≤gb207));have GE207:=Aside0.mk ((by rw [hg];exact (below_size (by repeat (first|(with_reducible first|exact HB.out|apply zl1|apply zl2|apply zl3)|exact HB.out))):w.heap.size≤gb207));replace HB:=Aside0.mk (below_step (by repeat (first|(with_reducible first|exact HB.out|apply zl1|apply zl2|apply zl3)|exact HB.out)) hb);clear hb hbox hg;obtain ⟨hcz5_0,hcz5_1,hcz5_2,hcz5_3,hcz5_4,hcz5_5,hcz5_6⟩:=zc7 BK207.out;obtain ⟨hfz5_0,hfz5_1,hfz5_2,hfz5_3,hfz5_4,hfz5_5,hfz5_6⟩:=zf7 BK207.out)|((with_reducible refine gate_callee (f:=15) rfl ?_);refine goesL_ (some 11) rfl rfl Tryd.func15 (by kernel_rfl) rfl #[.int .i64 a0_0] rfl (by (try simp only [List.map_toArray,List.map_cons,List.map_nil]);first|done|rfl|(simp only [List.length_drop,List.length_take];rfl)|(simp (disch:=omega) only [u64_in];rfl)) ?_;(with_reducible refine (factotumref13_Operands.calls k a0_0 t208 t209 _ A2.out).mono ?_);rintro e w' ⟨rfl,⟨nd,rfl⟩⟩;refine ⟨_,rfl,?_⟩)|((with_reducible refine gate_callee (f:=35) rfl ?_);refine goesL_ (some 17) rfl rfl Tryd.func35 (by kernel_rfl) rfl #[.int .u64 (IntKind.u64.wrap (a0_0)),.int .i64 1] rfl (by (try simp only [List.map_toArray,List.map_cons,List.map_nil]);first|done|rfl|(simp only [List.length_drop,List.length_take];rfl)|(simp (disch:=omega) only [u64_in];rfl)) ?_;(with_reducible refine (factotumref01_Num.calls k (IntKind.u64.wrap (a0_0)) 1 t210 _ A3.out).mono ?_);rintro e w6 ⟨rfl,hb⟩;refine ⟨_,rfl,?_⟩;replace BK207:=Aside0.mk (blk_below (g:=gb207) (o:=.cells #[.int .i64 a0_0,.int .i64 a0_1,.int .i64 a0_2,.int .i64 a0_3,.int .i64 a0_4,.int .i64 a0_5,.string a0_6] 42 (0,0)) (by (with_reducible repeat (first|apply zb1|apply zb2|apply zb3));exact BK207.out) hb);replace HB:=Aside0.mk (below_step (by repeat (first|(with_reducible first|exact HB.out|apply zl1|apply zl2|apply zl3|refine below_set ?_ GE207.out)|exact HB.out)) hb);(try clear hb);obtain ⟨hcz7_0,hcz7_1,hcz7_2,hcz7_3,hcz7_4,hcz7_5,hcz7_6⟩:=zc7 BK207.out;obtain ⟨hfz7_0,hfz7_1,hfz7_2,hfz7_3,hfz7_4,hfz7_5,hfz7_6⟩:=zf7 BK207.out)|((with_reducible refine gate_dst (N:=24) rfl ?_);refine Kd.R_lit (Kd.int .i64) _ 3 ?hg (N:=24) ?hd (xs:=([a0_1,a0_2,a0_3]:List Int)) (inner:=[.int .i64 a0_1,.int .i64 a0_2,.int .i64 a0_3]) (ok:=fun _=>True) (okp:=fun _=>True) ?hr ?hp (fun _ hk=>hk) trivial (Below.refl _ _) (Nat.le_refl _) (by simp) ?_;(case hd=>rfl);(case hg=>rfl);(case hr=>first|(go_simp;done)|(go_simp;rfl));(case hp=>exact (Reps.one (show Kd.M (Kd.int .i64) _ _ _ a0_1 [.int .i64 a0_1] from rfl) (Reps.one (show Kd.M (Kd.int .i64) _ _ _ a0_2 [.int .i64 a0_2] from rfl) (Reps.one (show Kd.M (Kd.int .i64) _ _ _ a0_3 [.int .i64 a0_3] from rfl) (Reps.none _ _)))));intro v212 w8 ho9 hb hg_ hnew_;clear hg_ hnew_;(first|rw [← Ny211.out] at ho9|(simp only [Int.reduceToNat] at ho9;rw [← Ny211.out] at ho9));have HO213:=Aside0.mk (Kd.R_lower ho9 (below_size (by repeat (first|(with_reducible first|exact HB.out|apply zl1|apply zl2|apply zl3|refine below_set ?_ GE207.out)|exact HB.out))));replace BK207:=Aside0.mk (blk_below (g:=gb207) (o:=.cells #[.int .i64 a0_0,.int .i64 a0_1,.int .i64 a0_2,.int .i64 a0_3,.int .i64 a0_4,.int .i64 a0_5,.string a0_6] 42 (0,0)) (by (with_reducible repeat (first|apply zb1|apply zb2|apply zb3));exact BK207.out) hb);replace HB:=Aside0.mk (below_step (by repeat (first|(with_reducible first|exact HB.out|apply zl1|apply zl2|apply zl3|refine below_set ?_ GE207.out)|exact HB.out)) hb);clear hb ho9))
 go_loopg [5,7] k (fun kq v5 v7 w'=>∃ (x5_1:ByteArray) (x7_1:Int),v5=.string x5_1∧v7=.int .i64 x7_1∧Aside0 (factotumref13_one.l0 kq t208 x5_1 y211 x7_1 a0_0 a0_1 a0_2 a0_3 a0_4 a0_5 a0_6=some r)∧Aside0 (kq≤k)∧Aside0 (Kd.R (Kd.int .i64) 3 w' w.heap.size (fun _=>True) v212 y211)∧Aside0 (w'.heap[gb207]?=some (.cells #[.int .i64 a0_0,.int .i64 a0_1,.int .i64 a0_2,.int .i64 a0_3,.int .i64 a0_4,.int .i64 a0_5,.string a0_6] 42 (0,0)))∧Aside0 (Below w.heap.size w w'))
 case atStart=>exact ⟨(t210),(0),(by first|(with_reducible rfl)|(simp;done)|(simp [*];done)|rfl|(simp only [not_isEmpty_bne])),(by first|(with_reducible rfl)|(simp;done)|(simp [*];done)|rfl|(simp only [not_isEmpty_bne])),H',⟨Nat.le_refl _⟩,⟨by (with_reducible repeat (first|apply zk1|apply zk2|apply zk3));exact HO213.out⟩,⟨by (with_reducible repeat (first|apply zb1|apply zb2|apply zb3));exact BK207.out⟩,⟨by repeat (first|(with_reducible first|exact HB.out|apply zl1|apply zl2|apply zl3|refine below_set ?_ GE207.out)|exact HB.out)⟩⟩
 case round =>
  clear H'
  try clear hfz5_0 hfz5_1 hfz5_2 hfz5_3 hfz5_4 hfz5_5 hfz5_6 hfz7_0 hfz7_1 hfz7_2 hfz7_3 hfz7_4
  try clear hcz5_0 hcz5_1 hcz5_2 hcz5_3 hcz5_4 hcz5_5 hcz5_6 hcz7_0 hcz7_1 hcz7_2 hcz7_3 hcz7_4 hcz7_5 hcz7_6
  try clear c1
  try clear c2
  try clear p2
  try clear c3
  try clear hfz7_5 hfz7_6
  obtain ⟨x5_1,x7_1,rfl,rfl,HA,HK1,HO_6,BK207,HB⟩:=hrel
  cases gk with
  | zero=>exact absurd HA.out (by simp [factotumref13_one.l0])
  | succ k1 =>
   have H:=HA.out
   clear HA
   simp only [factotumref13_one.l0] at H
   by_cases c10:x7_1 < t208
   ·rw [if_pos c10] at H
    have c10b0:decide (x7_1 < t208)=true:=decide_eq_true c10
    clear c10
    by_cases c11:0≤x7_1
    ·rw [if_pos c11] at H
     have c11b0:decide (0≤x7_1)=true:=decide_eq_true c11
     clear c11
     by_cases c12:x7_1 < (y211.length:Int)
     ·rw [if_pos c12] at H
      have c12b0:decide (x7_1 < (y211.length:Int))=true:=decide_eq_true c12
      clear c12
      replace H:=Option.bind_eq_some_iff.mp H
      obtain ⟨t215,A130,H⟩:=H
      replace H:(if x5_1.size + t215.size≤9223372036854775807 then (factotumref13_one.l0 k1 t208 (x5_1 ++ t215) y211 (wrap64 (x7_1 + 1)) a0_0 a0_1 a0_2 a0_3 a0_4 a0_5 a0_6) else (none))=some r:=H
      have A13:=Aside0.mk A130
      clear A130
      by_cases c14:x5_1.size + t215.size≤9223372036854775807
      ·rw [if_pos c14] at H
       have c14b0:=eq_true c14
       have c14b1:decide (x5_1.size + t215.size≤9223372036854775807)=true:=decide_eq_true c14
       try have c14b2:(9223372036854775807 < x5_1.size + t215.size)=False:=eq_false (Nat.not_lt.2 c14)
       have H':=Aside0.mk H
       clear H
       obtain ⟨Ao15,co15,eo15⟩:=Kd.R_slice HO_6.out
       subst eo15
       have p214:0≤(x7_1:Int):=of_decide_eq_true (by first|(with_reducible assumption)|assumption)
       have q214:x7_1 < (y211.length:Int):=of_decide_eq_true (by first|(with_reducible assumption)|assumption)
       obtain ⟨ad214,e214,hx214_0⟩:=Kd.at_int (Kd.R_reads' HO_6.out).2.2 x7_1 p214 q214
       cases e214
       replace p214:=eq_true p214
       replace q214:=eq_true q214
       go_wp2_with (first|((with_reducible refine gate_callee (f:=35) rfl ?_);refine goesL_ (some 36) rfl rfl Tryd.func35 (by kernel_rfl) rfl #[.int .u64 (IntKind.u64.wrap (rd y211 x7_1)),.int .i64 1] rfl (by (try simp only [List.map_toArray,List.map_cons,List.map_nil]);first|done|rfl|(simp only [List.length_drop,List.length_take];rfl)|(simp (disch:=omega) only [u64_in];rfl)) ?_;(with_reducible refine (factotumref01_Num.calls k1 (IntKind.u64.wrap (rd y211 x7_1)) 1 t215 _ A13.out).mono ?_);rintro e w16 ⟨rfl,hb⟩;refine ⟨_,rfl,?_⟩;replace HO_6:=Aside0.mk (Kd.R_below (by (with_reducible repeat (first|apply zk1|apply zk2|apply zk3));exact HO_6.out) hb);replace BK207:=Aside0.mk (blk_below (g:=gb207) (o:=.cells #[.int .i64 a0_0,.int .i64 a0_1,.int .i64 a0_2,.int .i64 a0_3,.int .i64 a0_4,.int .i64 a0_5,.string a0_6] 42 (0,0)) (by (with_reducible repeat (first|apply zb1|apply zb2|apply zb3));exact BK207.out) hb);replace HB:=Aside0.mk (below_step (by repeat (first|(with_reducible first|exact HB.out|apply zl1|apply zl2|apply zl3|refine below_set ?_ GE207.out)|exact HB.out)) hb);(try clear hb)))
       go_roundg k1
       case measure=>have:=HK1.out;omega
       case rel=>exact ⟨(x5_1 ++ t215),(wrap64 (x7_1 + 1)),(by first|(with_reducible rfl)|(simp;done)|(simp [*];done)|rfl|(simp only [not_isEmpty_bne])),(by first|(with_reducible rfl)|(simp;done)|(simp [*];done)|rfl|(simp only [not_isEmpty_bne])),H',⟨by have:=HK1.out;omega⟩,⟨by (with_reducible repeat (first|apply zk1|apply zk2|apply zk3));exact HO_6.out⟩,⟨by (with_reducible repeat (first|apply zb1|apply zb2|apply zb3));exact BK207.out⟩,⟨by repeat (first|(with_reducible first|exact HB.out|apply zl1|apply zl2|apply zl3|refine below_set ?_ GE207.out)|exact HB.out)⟩⟩
      ·rw [if_neg c14] at H
       exact absurd H (by simp)
     ·rw [if_neg c12] at H
      exact absurd H (by simp)
    ·rw [if_neg c11] at H
     exact absurd H (by simp)
   ·rw [if_neg c10] at H
    have c10b0:decide (x7_1 < t208)=false:=decide_eq_false c10
    clear c10
    by_cases c17:a0_0=1
    ·rw [if_pos c17] at H
     have c17b0:(a0_0 == 1)=true:=beq_iff_eq.mpr c17
     have c17b1:(a0_0 != 1)=false:=bne_eq_false_iff_eq.mpr c17
     clear c17
     replace H:=Option.bind_eq_some_iff.mp H
     obtain ⟨t216,A180,H⟩:=H
     replace H:(if x5_1.size + t216.size≤9223372036854775807 then (if a0_4=1 then ((factotumref01_Num.f k1 (IntKind.u64.wrap (a0_5)) 8).bind fun t217=>(if (x5_1 ++ t216).size + t217.size≤9223372036854775807 then (some ((x5_1 ++ t216) ++ t217)) else (none))) else ((factotumref01_Str.f k1 a0_6).bind fun t218=>(if (x5_1 ++ t216).size + t218.size≤9223372036854775807 then (some ((x5_1 ++ t216) ++ t218)) else (none)))) else (none))=some r:=H
     have A18:=Aside0.mk A180
     clear A180
     by_cases c19:x5_1.size + t216.size≤9223372036854775807
     ·rw [if_pos c19] at H
      have c19b0:=eq_true c19
      have c19b1:decide (x5_1.size + t216.size≤9223372036854775807)=true:=decide_eq_true c19
      try have c19b2:(9223372036854775807 < x5_1.size + t216.size)=False:=eq_false (Nat.not_lt.2 c19)
      by_cases c20:a0_4=1
      ·rw [if_pos c20] at H
       have c20b0:(a0_4 == 1)=true:=beq_iff_eq.mpr c20
       have c20b1:(a0_4 != 1)=false:=bne_eq_false_iff_eq.mpr c20
       clear c20
       replace H:=Option.bind_eq_some_iff.mp H
       obtain ⟨t217,A210,H⟩:=H
       replace H:(if (x5_1 ++ t216).size + t217.size≤9223372036854775807 then (some ((x5_1 ++ t216) ++ t217)) else (none))=some r:=H
       have A21:=Aside0.mk A210
       clear A210
       by_cases c22:(x5_1 ++ t216).size + t217.size≤9223372036854775807
       ·rw [if_pos c22] at H
        have c22b0:=eq_true c22
        have c22b1:decide ((x5_1 ++ t216).size + t217.size≤9223372036854775807)=true:=decide_eq_true c22
        (try (have c22x:=c22;simp at c22x))
        try have c22b2:(9223372036854775807 < (x5_1 ++ t216).size + t217.size)=False:=eq_false (Nat.not_lt.2 c22)
        (try have c22b3:=c22b2)
        (try simp only [ByteArray.size_append,ByteArray.size_extract] at c22b3)
        (try rw [Nat.min_eq_left (by omega)] at c22b3)
        obtain rfl:=Option.some.inj H
        obtain ⟨hcz23_0,hcz23_1,hcz23_2,hcz23_3,hcz23_4,hcz23_5,hcz23_6⟩:=zc7 BK207.out
        obtain ⟨hfz23_0,hfz23_1,hfz23_2,hfz23_3,hfz23_4,hfz23_5,hfz23_6⟩:=zf7 BK207.out
        go_wp2_with (first|((with_reducible refine gate_callee (f:=35) rfl ?_);refine goesL_ (some 47) rfl rfl Tryd.func35 (by kernel_rfl) rfl #[.int .u64 (IntKind.u64.wrap (a0_4)),.int .i64 1] rfl (by (try simp only [List.map_toArray,List.map_cons,List.map_nil]);first|done|rfl|(simp only [List.length_drop,List.length_take];rfl)|(simp (disch:=omega) only [u64_in];rfl)) ?_;(with_reducible refine (factotumref01_Num.calls k1 (IntKind.u64.wrap (a0_4)) 1 t216 _ A18.out).mono ?_);rintro e w24 ⟨rfl,hb⟩;refine ⟨_,rfl,?_⟩;replace HO_6:=Aside0.mk (Kd.R_below (by (with_reducible repeat (first|apply zk1|apply zk2|apply zk3));exact HO_6.out) hb);replace BK207:=Aside0.mk (blk_below (g:=gb207) (o:=.cells #[.int .i64 a0_0,.int .i64 a0_1,.int .i64 a0_2,.int .i64 a0_3,.int .i64 a0_4,.int .i64 a0_5,.string a0_6] 42 (0,0)) (by (with_reducible repeat (first|apply zb1|apply zb2|apply zb3));exact BK207.out) hb);replace HB:=Aside0.mk (below_step (by repeat (first|(with_reducible first|exact HB.out|apply zl1|apply zl2|apply zl3|refine below_set ?_ GE207.out)|exact HB.out)) hb);(try clear hb);obtain ⟨hcz25_0,hcz25_1,hcz25_2,hcz25_3,hcz25_4,hcz25_5,hcz25_6⟩:=zc7 BK207.out;obtain ⟨hfz25_0,hfz25_1,hfz25_2,hfz25_3,hfz25_4,hfz25_5,hfz25_6⟩:=zf7 BK207.out)|((with_reducible refine gate_callee (f:=35) rfl ?_);refine goesL_ (some 58) rfl rfl Tryd.func35 (by kernel_rfl) rfl #[.int .u64 (IntKind.u64.wrap (a0_5)),.int .i64 8] rfl (by (try simp only [List.map_toArray,List.map_cons,List.map_nil]);first|done|rfl|(simp only [List.length_drop,List.length_take];rfl)|(simp (disch:=omega) only [u64_in];rfl)) ?_;(with_reducible refine (factotumref01_Num.calls k1 (IntKind.u64.wrap (a0_5)) 8 t217 _ A21.out).mono ?_);rintro e w26 ⟨rfl,hb⟩;refine ⟨_,rfl,?_⟩;replace HO_6:=Aside0.mk (Kd.R_below (by (with_reducible repeat (first|apply zk1|apply zk2|apply zk3));exact HO_6.out) hb);replace BK207:=Aside0.mk (blk_below (g:=gb207) (o:=.cells #[.int .i64 a0_0,.int .i64 a0_1,.int .i64 a0_2,.int .i64 a0_3,.int .i64 a0_4,.int .i64 a0_5,.string a0_6] 42 (0,0)) (by (with_reducible repeat (first|apply zb1|apply zb2|apply zb3));exact BK207.out) hb);replace HB:=Aside0.mk (below_step (by repeat (first|(with_reducible first|exact HB.out|apply zl1|apply zl2|apply zl3|refine below_set ?_ GE207.out)|exact HB.out)) hb);(try clear hb)))
        go_ret
        exact ⟨by first|(with_reducible rfl)|(simp only [isEmpty_bne,Bool.not_not] <;> rfl)|rfl|(simp [*,errW_none,errW_some] <;> rfl),by repeat (first|(with_reducible first|exact HB.out|apply zl1|apply zl2|apply zl3|refine below_set ?_ GE207.out)|exact HB.out)⟩
       ·rw [if_neg c22] at H
        exact absurd H (by simp)
      ·rw [if_neg c20] at H
       have c20b0:(a0_4 == 1)=false:=beq_eq_false_iff_ne.mpr c20
       have c20b1:(a0_4 != 1)=true:=bne_iff_ne.mpr c20
       replace H:=Option.bind_eq_some_iff.mp H
       obtain ⟨t218,A270,H⟩:=H
       replace H:(if (x5_1 ++ t216).size + t218.size≤9223372036854775807 then (some ((x5_1 ++ t216) ++ t218)) else (none))=some r:=H
       have A27:=Aside0.mk A270
       clear A270
       by_cases c28:(x5_1 ++ t216).size + t218.size≤9223372036854775807
       ·rw [if_pos c28] at H
        have c28b0:=eq_true c28
        have c28b1:decide ((x5_1 ++ t216).size + t218.size≤9223372036854775807)=true:=decide_eq_true c28
        (try (have c28x:=c28;simp at c28x))
        try have c28b2:(9223372036854775807 < (x5_1 ++ t216).size + t218.size)=False:=eq_false (Nat.not_lt.2 c28)
        (try have c28b3:=c28b2)
        (try simp only [ByteArray.size_append,ByteArray.size_extract] at c28b3)
        (try rw [Nat.min_eq_left (by omega)] at c28b3)
        obtain rfl:=Option.some.inj H
        obtain ⟨hcz29_0,hcz29_1,hcz29_2,hcz29_3,hcz29_4,hcz29_5,hcz29_6⟩:=zc7 BK207.out
        obtain ⟨hfz29_0,hfz29_1,hfz29_2,hfz29_3,hfz29_4,hfz29_5,hfz29_6⟩:=zf7 BK207.out
        go_wp2_with (first|((with_reducible refine gate_callee (f:=35) rfl ?_);refine goesL_ (some 47) rfl rfl Tryd.func35 (by kernel_rfl) rfl #[.int .u64 (IntKind.u64.wrap (a0_4)),.int .i64 1] rfl (by (try simp only [List.map_toArray,List.map_cons,List.map_nil]);first|done|rfl|(simp only [List.length_drop,List.length_take];rfl)|(simp (disch:=omega) only [u64_in];rfl)) ?_;(with_reducible refine (factotumref01_Num.calls k1 (IntKind.u64.wrap (a0_4)) 1 t216 _ A18.out).mono ?_);rintro e w30 ⟨rfl,hb⟩;refine ⟨_,rfl,?_⟩;replace HO_6:=Aside0.mk (Kd.R_below (by (with_reducible repeat (first|apply zk1|apply zk2|apply zk3));exact HO_6.out) hb);replace BK207:=Aside0.mk (blk_below (g:=gb207) (o:=.cells #[.int .i64 a0_0,.int .i64 a0_1,.int .i64 a0_2,.int .i64 a0_3,.int .i64 a0_4,.int .i64 a0_5,.string a0_6] 42 (0,0)) (by (with_reducible repeat (first|apply zb1|apply zb2|apply zb3));exact BK207.out) hb);replace HB:=Aside0.mk (below_step (by repeat (first|(with_reducible first|exact HB.out|apply zl1|apply zl2|apply zl3|refine below_set ?_ GE207.out)|exact HB.out)) hb);(try clear hb);obtain ⟨hcz31_0,hcz31_1,hcz31_2,hcz31_3,hcz31_4,hcz31_5,hcz31_6⟩:=zc7 BK207.out;obtain ⟨hfz31_0,hfz31_1,hfz31_2,hfz31_3,hfz31_4,hfz31_5,hfz31_6⟩:=zf7 BK207.out)|((with_reducible refine gate_callee (f:=36) rfl ?_);refine goesL_ (some 64) rfl rfl Tryd.func36 (by kernel_rfl) rfl #[.string a0_6] rfl (by (try simp only [List.map_toArray,List.map_cons,List.map_nil]);first|done|rfl|(simp only [List.length_drop,List.length_take];rfl)|(simp (disch:=omega) only [u64_in];rfl)) ?_;(with_reducible refine (factotumref01_Str.calls k1 a0_6 t218 _ A27.out).mono ?_);rintro e w32 ⟨rfl,hb⟩;refine ⟨_,rfl,?_⟩;replace HO_6:=Aside0.mk (Kd.R_below (by (with_reducible repeat (first|apply zk1|apply zk2|apply zk3));exact HO_6.out) hb);replace BK207:=Aside0.mk (blk_below (g:=gb207) (o:=.cells #[.int .i64 a0_0,.int .i64 a0_1,.int .i64 a0_2,.int .i64 a0_3,.int .i64 a0_4,.int .i64 a0_5,.string a0_6] 42 (0,0)) (by (with_reducible repeat (first|apply zb1|apply zb2|apply zb3));exact BK207.out) hb);replace HB:=Aside0.mk (below_step (by repeat (first|(with_reducible first|exact HB.out|apply zl1|apply zl2|apply zl3|refine below_set ?_ GE207.out)|exact HB.out)) hb);(try clear hb)))
        go_ret
        exact ⟨by first|(with_reducible rfl)|(simp only [isEmpty_bne,Bool.not_not] <;> rfl)|rfl|(simp [*,errW_none,errW_some] <;> rfl),by repeat (first|(with_reducible first|exact HB.out|apply zl1|apply zl2|apply zl3|refine below_set ?_ GE207.out)|exact HB.out)⟩
       ·rw [if_neg c28] at H
        exact absurd H (by simp)
     ·rw [if_neg c19] at H
      exact absurd H (by simp)
    ·rw [if_neg c17] at H
     have c17b0:(a0_0 == 1)=false:=beq_eq_false_iff_ne.mpr c17
     have c17b1:(a0_0 != 1)=true:=bne_iff_ne.mpr c17
     obtain rfl:=Option.some.inj H
     obtain ⟨hcz33_0,hcz33_1,hcz33_2,hcz33_3,hcz33_4,hcz33_5,hcz33_6⟩:=zc7 BK207.out
     obtain ⟨hfz33_0,hfz33_1,hfz33_2,hfz33_3,hfz33_4,hfz33_5,hfz33_6⟩:=zf7 BK207.out
     go_wp2
     go_ret
     exact ⟨by first|(with_reducible rfl)|(simp only [isEmpty_bne,Bool.not_not] <;> rfl)|rfl|(simp [*,errW_none,errW_some] <;> rfl),by repeat (first|(with_reducible first|exact HB.out|apply zl1|apply zl2|apply zl3|refine below_set ?_ GE207.out)|exact HB.out)⟩

end Go.Proofs.YtljfichnlgfikaaDoor.PAll
