/- Printed walks of the functions that the laws reach: each function, what it computes, and that it does. No conditions. -/
import Derived.Test.YtljfichnlgfikaaDoorPAllx0
import Derived.Test.YtljfichnlgfikaaDoorPAllx1
import Derived.Test.YtljfichnlgfikaaDoorPAllx15
import Derived.Test.YtljfichnlgfikaaDoorPAllx16
namespace Go.Proofs.YtljfichnlgfikaaDoor.PAll
open Go.RowKit Go.Proofs.YtljfichnlgfikaaDoor.XW Go.Proofs.YtljfichnlgfikaaDoor.XLib Go.Proofs.YtljfichnlgfikaaDoorW.PrintWords Go.Proofs.YtljfichnlgfikaaDoorW.PrintLast Go.Proofs.YtljfichnlgfikaaDoorW.PrintMore
attribute [local go_sem] max2_int min2_int max_two min_two max_three min_three max_four min_four   -- for this text's walks alone
set_option linter.unusedVariables false
set_option linter.unusedSimpArgs false

attribute [local go_sem high] eqA40
/-! ### factotumref13_Right: function 19 -/
def factotumref13_Right.l0:Nat→Int→Bool→List Int→Int→Int→Int→Int→Int→Int→Int→ByteArray→Option (Bool)
 | 0,_,_,_,_,_,_,_,_,_,_,_=>none
 | k + 1,x3,x4,x5,x6,x192000,x192001,x192002,x192003,x192004,x192005,x192006=>if x6 < 3 then (if 0≤x6 then (if x6 < (x5.length:Int) then (if (rd x5 x6) < 0 then (some false) else (if (rd x5 x6) > 255 then (some false) else (if x6 ≥ x3 then (if (rd x5 x6)=0 then (factotumref13_Right.l0 k x3 x4 x5 (wrap64 (x6 + 1)) x192000 x192001 x192002 x192003 x192004 x192005 x192006) else (some false)) else (factotumref13_Right.l0 k x3 x4 x5 (wrap64 (x6 + 1)) x192000 x192001 x192002 x192003 x192004 x192005 x192006)))) else (none)) else (none)) else (if x192000=1 then (if x4=true then ((factotumref02_Right.f x192004 x192005 x192006).bind fun t200=>(if t200=true then (some (decide ((x192006.size:Int)≤10))) else (some false))) else (some false)) else (if x4=true then (some (x192004 == 0 && (x192005 == 0 && (x192006.toList == ([]:List UInt8))))) else (some false)))
def factotumref13_Right.f (k:Nat) (a0_0:Int) (a0_1:Int) (a0_2:Int) (a0_3:Int) (a0_4:Int) (a0_5:Int) (a0_6:ByteArray):Option (Bool):=(factotumref13_Operands.f k a0_0).bind fun bt192=>(factotumref13_Right.l0 k bt192.1 bt192.2 (([a0_1,a0_2,a0_3]:List Int)) 0 a0_0 a0_1 a0_2 a0_3 a0_4 a0_5 a0_6)
theorem factotumref13_Right.mono_l:∀ k,(∀ y0 y1 y2 y3 y4 y5 y6 y7 y8 y9 y10,LeO (factotumref13_Right.l0 k y0 y1 y2 y3 y4 y5 y6 y7 y8 y9 y10) (factotumref13_Right.l0 (k + 1) y0 y1 y2 y3 y4 y5 y6 y7 y8 y9 y10))
 | 0=>fun _ _ _ _ _ _ _ _ _ _ _ r h=>by simp [factotumref13_Right.l0] at h
 | k + 1=>by
  have ih0:=factotumref13_Right.mono_l k
  ·intro y0 y1 y2 y3 y4 y5 y6 y7 y8 y9 y10
   unfold factotumref13_Right.l0
   repeat' first
   | (with_reducible exact ih0 _ _ _ _ _ _ _ _ _ _ _)
   | (with_reducible exact factotumref13_Operands.mono _ _)
   | (with_reducible exact LeO.refl _)
   | (with_reducible exact LeO.none _)
   | (with_reducible refine LeO.ite ?_ ?_)
   | (with_reducible refine LeO.bind ?_ (fun _=>?_))
   | exact ih0 _ _ _ _ _ _ _ _ _ _ _
   | exact factotumref13_Operands.mono _ _
   | exact LeO.none _
   | refine LeO.ite ?_ ?_
   | refine LeO.bind ?_ (fun _=>?_)
theorem factotumref13_Right.mono:∀ a0 a1 a2 a3 a4 a5 a6 k,LeO (factotumref13_Right.f k a0 a1 a2 a3 a4 a5 a6) (factotumref13_Right.f (k + 1) a0 a1 a2 a3 a4 a5 a6):=by
 intro a0 a1 a2 a3 a4 a5 a6 k
 have ih0:=factotumref13_Right.mono_l k
 unfold factotumref13_Right.f
 repeat' first
   | (with_reducible exact ih0 _ _ _ _ _ _ _ _ _ _ _)
   | (with_reducible exact factotumref13_Operands.mono _ _)
   | (with_reducible exact LeO.refl _)
   | (with_reducible exact LeO.none _)
   | (with_reducible refine LeO.ite ?_ ?_)
   | (with_reducible refine LeO.bind ?_ (fun _=>?_))
   | exact ih0 _ _ _ _ _ _ _ _ _ _ _
   | exact factotumref13_Operands.mono _ _
   | exact LeO.none _
   | refine LeO.ite ?_ ?_
   | refine LeO.bind ?_ (fun _=>?_)
set_option maxHeartbeats 8000000 in
set_option maxRecDepth 100000 in
theorem factotumref13_Right.calls (k:Nat) (a0_0:Int) (a0_1:Int) (a0_2:Int) (a0_3:Int) (a0_4:Int) (a0_5:Int) (a0_6:ByteArray) (r:Bool) (w:World) (h:factotumref13_Right.f k a0_0 a0_1 a0_2 a0_3 a0_4 a0_5 a0_6=some r) :
  Calls Tryd.prog 19 #[.agg #[.int .i64 a0_0,.int .i64 a0_1,.int .i64 a0_2,.int .i64 a0_3,.int .i64 a0_4,.int .i64 a0_5,.string a0_6]] w fun e w'=>e=.returned (.bool r)∧Below w.heap.size w w':=by
 have hu42:=Tryd.underlying42
 have hu40:=Tryd.underlying40
 have HB:=Aside0.mk (Below.refl w.heap.size w)
 have H:((factotumref13_Operands.f k a0_0).bind fun bt192=>(factotumref13_Right.l0 k bt192.1 bt192.2 (([a0_1,a0_2,a0_3]:List Int)) 0 a0_0 a0_1 a0_2 a0_3 a0_4 a0_5 a0_6))=some r:=h
 clear h
 replace H:=Option.bind_eq_some_iff.mp H
 obtain ⟨⟨t192,t193⟩,A20,H⟩:=H
 replace H:(factotumref13_Right.l0 k t192 t193 (([a0_1,a0_2,a0_3]:List Int)) 0 a0_0 a0_1 a0_2 a0_3 a0_4 a0_5 a0_6)=some r:=H
 have A2:=Aside0.mk A20
 clear A20
 obtain ⟨y194,hy194⟩:∃ y_:List Int,y_=(([a0_1,a0_2,a0_3]:List Int)):=⟨_,rfl⟩
 replace H:(factotumref13_Right.l0 k t192 t193 y194 0 a0_0 a0_1 a0_2 a0_3 a0_4 a0_5 a0_6)=some r:=by first|(rw [hy194];with_reducible exact H)|(have H2_:=(Option.bind_some _ _).symm.trans H;rw [hy194];with_reducible exact H2_)|(have H2_:=(Option.bind_some _ _).symm.trans H;with_reducible exact H2_)|with_reducible exact H|(rw [hy194];exact H)|exact H
 have Ny194:=Aside0.mk hy194
 clear hy194
 have H':=Aside0.mk H
 clear H
 go_enter Tryd.func19,Tryd.ntmps19
 go_wp2_with (first|((with_reducible refine gate_dst (N:=1) rfl ?_);(try (refine gate_guard (by rfl) ?_;dsimp only));refine box_event ?hg (N:=1) ?hd (cs:=#[.int .i64 a0_0,.int .i64 a0_1,.int .i64 a0_2,.int .i64 a0_3,.int .i64 a0_4,.int .i64 a0_5,.string a0_6]) (t:=42) ?hr ?_;(case hd=>rfl);(case hg=>rfl);(case hr=>first|(go_simp;done)|(go_simp;rfl));intro gb191 hg w3 hbox hb;have BK191:=Aside0.mk (hbox);have GW191:=Aside0.mk ((by rw [hg];exact (below_size (by repeat (first|(with_reducible first|exact HB.out|apply zl1|apply zl2|apply zl3)|exact HB.out))):w.heap.size≤gb191));have GE191:=Aside0.mk ((by rw [hg];exact (below_size (by repeat (first|(with_reducible first|exact HB.out|apply zl1|apply zl2|apply zl3)|exact HB.out))):w.heap.size≤gb191));replace HB:=Aside0.mk (below_step (by repeat (first|(with_reducible first|exact HB.out|apply zl1|apply zl2|apply zl3)|exact HB.out)) hb);clear hb hbox hg;obtain ⟨hcz4_0,hcz4_1,hcz4_2,hcz4_3,hcz4_4,hcz4_5,hcz4_6⟩:=zc7 BK191.out;obtain ⟨hfz4_0,hfz4_1,hfz4_2,hfz4_3,hfz4_4,hfz4_5,hfz4_6⟩:=zf7 BK191.out)|((with_reducible refine gate_callee (f:=15) rfl ?_);refine goesL_ (some 10) rfl rfl Tryd.func15 (by kernel_rfl) rfl #[.int .i64 a0_0] rfl (by (try simp only [List.map_toArray,List.map_cons,List.map_nil]);first|done|rfl|(simp only [List.length_drop,List.length_take];rfl)|(simp (disch:=omega) only [u64_in];rfl)) ?_;(with_reducible refine (factotumref13_Operands.calls k a0_0 t192 t193 _ A2.out).mono ?_);rintro e w' ⟨rfl,⟨nd,rfl⟩⟩;refine ⟨_,rfl,?_⟩)|((with_reducible refine gate_dst (N:=19) rfl ?_);(try (refine gate_guard (by rfl) ?_;dsimp only));refine Kd.R_lit (Kd.int .i64) _ 3 ?hg (N:=19) ?hd (xs:=([a0_1,a0_2,a0_3]:List Int)) (inner:=[.int .i64 a0_1,.int .i64 a0_2,.int .i64 a0_3]) (ok:=fun _=>True) (okp:=fun _=>True) ?hr ?hp (fun _ hk=>hk) trivial (Below.refl _ _) (Nat.le_refl _) (by simp) ?_;(case hd=>rfl);(case hg=>rfl);(case hr=>first|(go_simp;done)|(go_simp;rfl));(case hp=>exact (Reps.one (show Kd.M (Kd.int .i64) _ _ _ a0_1 [.int .i64 a0_1] from rfl) (Reps.one (show Kd.M (Kd.int .i64) _ _ _ a0_2 [.int .i64 a0_2] from rfl) (Reps.one (show Kd.M (Kd.int .i64) _ _ _ a0_3 [.int .i64 a0_3] from rfl) (Reps.none _ _)))));intro v195 w5 ho6 hb hg_ hnew_;clear hg_ hnew_;(first|rw [← Ny194.out] at ho6|(simp only [Int.reduceToNat] at ho6;rw [← Ny194.out] at ho6));have HO196:=Aside0.mk (Kd.R_lower ho6 (below_size (by repeat (first|(with_reducible first|exact HB.out|apply zl1|apply zl2|apply zl3|refine below_set ?_ GE191.out)|exact HB.out))));replace BK191:=Aside0.mk (blk_below (g:=gb191) (o:=.cells #[.int .i64 a0_0,.int .i64 a0_1,.int .i64 a0_2,.int .i64 a0_3,.int .i64 a0_4,.int .i64 a0_5,.string a0_6] 42 (0,0)) (by (with_reducible repeat (first|apply zb1|apply zb2|apply zb3));exact BK191.out) hb);replace HB:=Aside0.mk (below_step (by repeat (first|(with_reducible first|exact HB.out|apply zl1|apply zl2|apply zl3|refine below_set ?_ GE191.out)|exact HB.out)) hb);clear hb ho6))
 go_loopg [6] k (fun kq v6 w'=>∃ (x6_1:Int),v6=.int .i64 x6_1∧Aside0 (factotumref13_Right.l0 kq t192 t193 y194 x6_1 a0_0 a0_1 a0_2 a0_3 a0_4 a0_5 a0_6=some r)∧Aside0 (kq≤k)∧Aside0 (Kd.R (Kd.int .i64) 3 w' w.heap.size (fun _=>True) v195 y194)∧Aside0 (w'.heap[gb191]?=some (.cells #[.int .i64 a0_0,.int .i64 a0_1,.int .i64 a0_2,.int .i64 a0_3,.int .i64 a0_4,.int .i64 a0_5,.string a0_6] 42 (0,0)))∧Aside0 (Below w.heap.size w w'))
 case atStart=>exact ⟨(0),(by first|(with_reducible rfl)|(simp;done)|(simp [*];done)|rfl|(simp only [not_isEmpty_bne])),H',⟨Nat.le_refl _⟩,⟨by (with_reducible repeat (first|apply zk1|apply zk2|apply zk3));exact HO196.out⟩,⟨by (with_reducible repeat (first|apply zb1|apply zb2|apply zb3));exact BK191.out⟩,⟨by repeat (first|(with_reducible first|exact HB.out|apply zl1|apply zl2|apply zl3|refine below_set ?_ GE191.out)|exact HB.out)⟩⟩
 case round =>
  clear H'
  try clear hfz4_0 hfz4_1 hfz4_2 hfz4_3 hfz4_4 hfz4_5 hfz4_6
  try clear hcz4_0 hcz4_1 hcz4_2 hcz4_3 hcz4_4 hcz4_5 hcz4_6
  try clear c1
  try clear p2
  obtain ⟨x6_1,rfl,HA,HK1,HO_5,BK191,HB⟩:=hrel
  cases gk with
  | zero=>exact absurd HA.out (by simp [factotumref13_Right.l0])
  | succ k1 =>
   have H:=HA.out
   clear HA
   simp only [factotumref13_Right.l0] at H
   by_cases c7:x6_1 < 3
   ·rw [if_pos c7] at H
    have c7b0:decide (x6_1 < 3)=true:=decide_eq_true c7
    clear c7
    by_cases c8:0≤x6_1
    ·rw [if_pos c8] at H
     have c8b0:decide (0≤x6_1)=true:=decide_eq_true c8
     clear c8
     by_cases c9:x6_1 < (y194.length:Int)
     ·rw [if_pos c9] at H
      have c9b0:decide (x6_1 < (y194.length:Int))=true:=decide_eq_true c9
      clear c9
      by_cases c10:(rd y194 x6_1) < 0
      ·rw [if_pos c10] at H
       have c10b0:decide ((rd y194 x6_1) < 0)=true:=decide_eq_true c10
       clear c10
       obtain rfl:=Option.some.inj H
       obtain ⟨Ao11,co11,eo11⟩:=Kd.R_slice HO_5.out
       subst eo11
       have p197:0≤(x6_1:Int):=of_decide_eq_true (by first|(with_reducible assumption)|assumption)
       have q197:x6_1 < (y194.length:Int):=of_decide_eq_true (by first|(with_reducible assumption)|assumption)
       obtain ⟨ad197,e197,hx197_0⟩:=Kd.at_int (Kd.R_reads' HO_5.out).2.2 x6_1 p197 q197
       cases e197
       replace p197:=eq_true p197
       replace q197:=eq_true q197
       go_wp2
       go_ret
       exact ⟨by first|(with_reducible rfl)|(simp only [isEmpty_bne,Bool.not_not] <;> rfl)|rfl|(simp [*,errW_none,errW_some] <;> rfl),by repeat (first|(with_reducible first|exact HB.out|apply zl1|apply zl2|apply zl3|refine below_set ?_ GE191.out)|exact HB.out)⟩
      ·rw [if_neg c10] at H
       have c10b0:decide ((rd y194 x6_1) < 0)=false:=decide_eq_false c10
       clear c10
       by_cases c12:(rd y194 x6_1) > 255
       ·rw [if_pos c12] at H
        have c12b0:decide (255 < (rd y194 x6_1))=true:=decide_eq_true c12
        clear c12
        obtain rfl:=Option.some.inj H
        obtain ⟨Ao13,co13,eo13⟩:=Kd.R_slice HO_5.out
        subst eo13
        have p197:0≤(x6_1:Int):=of_decide_eq_true (by first|(with_reducible assumption)|assumption)
        have q197:x6_1 < (y194.length:Int):=of_decide_eq_true (by first|(with_reducible assumption)|assumption)
        obtain ⟨ad197,e197,hx197_0⟩:=Kd.at_int (Kd.R_reads' HO_5.out).2.2 x6_1 p197 q197
        cases e197
        replace p197:=eq_true p197
        replace q197:=eq_true q197
        have p198:0≤(x6_1:Int):=of_decide_eq_true (by first|(with_reducible assumption)|assumption)
        have q198:x6_1 < (y194.length:Int):=of_decide_eq_true (by first|(with_reducible assumption)|assumption)
        obtain ⟨ad198,e198,hx198_0⟩:=Kd.at_int (Kd.R_reads' HO_5.out).2.2 x6_1 p198 q198
        obtain rfl:ad197=ad198:=(by injection e198)
        replace p198:=eq_true p198
        replace q198:=eq_true q198
        go_wp2
        go_ret
        exact ⟨by first|(with_reducible rfl)|(simp only [isEmpty_bne,Bool.not_not] <;> rfl)|rfl|(simp [*,errW_none,errW_some] <;> rfl),by repeat (first|(with_reducible first|exact HB.out|apply zl1|apply zl2|apply zl3|refine below_set ?_ GE191.out)|exact HB.out)⟩
       ·rw [if_neg c12] at H
        have c12b0:decide (255 < (rd y194 x6_1))=false:=decide_eq_false c12
        clear c12
        by_cases c14:x6_1 ≥ t192
        ·rw [if_pos c14] at H
         have c14b0:decide (t192≤x6_1)=true:=decide_eq_true c14
         clear c14
         by_cases c15:(rd y194 x6_1)=0
         ·rw [if_pos c15] at H
          have c15b0:((rd y194 x6_1) == 0)=true:=beq_iff_eq.mpr c15
          have c15b1:((rd y194 x6_1) != 0)=false:=bne_eq_false_iff_eq.mpr c15
          clear c15
          have H':=Aside0.mk H
          clear H
          obtain ⟨Ao16,co16,eo16⟩:=Kd.R_slice HO_5.out
          subst eo16
          have p197:0≤(x6_1:Int):=of_decide_eq_true (by first|(with_reducible assumption)|assumption)
          have q197:x6_1 < (y194.length:Int):=of_decide_eq_true (by first|(with_reducible assumption)|assumption)
          obtain ⟨ad197,e197,hx197_0⟩:=Kd.at_int (Kd.R_reads' HO_5.out).2.2 x6_1 p197 q197
          cases e197
          replace p197:=eq_true p197
          replace q197:=eq_true q197
          have p198:0≤(x6_1:Int):=of_decide_eq_true (by first|(with_reducible assumption)|assumption)
          have q198:x6_1 < (y194.length:Int):=of_decide_eq_true (by first|(with_reducible assumption)|assumption)
          obtain ⟨ad198,e198,hx198_0⟩:=Kd.at_int (Kd.R_reads' HO_5.out).2.2 x6_1 p198 q198
          obtain rfl:ad197=ad198:=(by injection e198)
          replace p198:=eq_true p198
          replace q198:=eq_true q198
          have p199:0≤(x6_1:Int):=of_decide_eq_true (by first|(with_reducible assumption)|assumption)
          have q199:x6_1 < (y194.length:Int):=of_decide_eq_true (by first|(with_reducible assumption)|assumption)
          obtain ⟨ad199,e199,hx199_0⟩:=Kd.at_int (Kd.R_reads' HO_5.out).2.2 x6_1 p199 q199
          obtain rfl:ad197=ad199:=(by injection e199)
          replace p199:=eq_true p199
          replace q199:=eq_true q199
          go_wp2
          go_roundg k1
          case measure=>have:=HK1.out;omega
          case rel=>exact ⟨(wrap64 (x6_1 + 1)),(by first|(with_reducible rfl)|(simp;done)|(simp [*];done)|rfl|(simp only [not_isEmpty_bne])),H',⟨by have:=HK1.out;omega⟩,⟨by (with_reducible repeat (first|apply zk1|apply zk2|apply zk3));exact HO_5.out⟩,⟨by (with_reducible repeat (first|apply zb1|apply zb2|apply zb3));exact BK191.out⟩,⟨by repeat (first|(with_reducible first|exact HB.out|apply zl1|apply zl2|apply zl3|refine below_set ?_ GE191.out)|exact HB.out)⟩⟩
         ·rw [if_neg c15] at H
          have c15b0:((rd y194 x6_1) == 0)=false:=beq_eq_false_iff_ne.mpr c15
          have c15b1:((rd y194 x6_1) != 0)=true:=bne_iff_ne.mpr c15
          obtain rfl:=Option.some.inj H
          obtain ⟨Ao17,co17,eo17⟩:=Kd.R_slice HO_5.out
          subst eo17
          have p197:0≤(x6_1:Int):=of_decide_eq_true (by first|(with_reducible assumption)|assumption)
          have q197:x6_1 < (y194.length:Int):=of_decide_eq_true (by first|(with_reducible assumption)|assumption)
          obtain ⟨ad197,e197,hx197_0⟩:=Kd.at_int (Kd.R_reads' HO_5.out).2.2 x6_1 p197 q197
          cases e197
          replace p197:=eq_true p197
          replace q197:=eq_true q197
          have p198:0≤(x6_1:Int):=of_decide_eq_true (by first|(with_reducible assumption)|assumption)
          have q198:x6_1 < (y194.length:Int):=of_decide_eq_true (by first|(with_reducible assumption)|assumption)
          obtain ⟨ad198,e198,hx198_0⟩:=Kd.at_int (Kd.R_reads' HO_5.out).2.2 x6_1 p198 q198
          obtain rfl:ad197=ad198:=(by injection e198)
          replace p198:=eq_true p198
          replace q198:=eq_true q198
          have p199:0≤(x6_1:Int):=of_decide_eq_true (by first|(with_reducible assumption)|assumption)
          have q199:x6_1 < (y194.length:Int):=of_decide_eq_true (by first|(with_reducible assumption)|assumption)
          obtain ⟨ad199,e199,hx199_0⟩:=Kd.at_int (Kd.R_reads' HO_5.out).2.2 x6_1 p199 q199
          obtain rfl:ad197=ad199:=(by injection e199)
          replace p199:=eq_true p199
          replace q199:=eq_true q199
          go_wp2
          go_ret
          exact ⟨by first|(with_reducible rfl)|(simp only [isEmpty_bne,Bool.not_not] <;> rfl)|rfl|(simp [*,errW_none,errW_some] <;> rfl),by repeat (first|(with_reducible first|exact HB.out|apply zl1|apply zl2|apply zl3|refine below_set ?_ GE191.out)|exact HB.out)⟩
        ·rw [if_neg c14] at H
         have c14b0:decide (t192≤x6_1)=false:=decide_eq_false c14
         clear c14
         have H':=Aside0.mk H
         clear H
         obtain ⟨Ao18,co18,eo18⟩:=Kd.R_slice HO_5.out
         subst eo18
         have p197:0≤(x6_1:Int):=of_decide_eq_true (by first|(with_reducible assumption)|assumption)
         have q197:x6_1 < (y194.length:Int):=of_decide_eq_true (by first|(with_reducible assumption)|assumption)
         obtain ⟨ad197,e197,hx197_0⟩:=Kd.at_int (Kd.R_reads' HO_5.out).2.2 x6_1 p197 q197
         cases e197
         replace p197:=eq_true p197
         replace q197:=eq_true q197
         have p198:0≤(x6_1:Int):=of_decide_eq_true (by first|(with_reducible assumption)|assumption)
         have q198:x6_1 < (y194.length:Int):=of_decide_eq_true (by first|(with_reducible assumption)|assumption)
         obtain ⟨ad198,e198,hx198_0⟩:=Kd.at_int (Kd.R_reads' HO_5.out).2.2 x6_1 p198 q198
         obtain rfl:ad197=ad198:=(by injection e198)
         replace p198:=eq_true p198
         replace q198:=eq_true q198
         go_wp2
         go_roundg k1
         case measure=>have:=HK1.out;omega
         case rel=>exact ⟨(wrap64 (x6_1 + 1)),(by first|(with_reducible rfl)|(simp;done)|(simp [*];done)|rfl|(simp only [not_isEmpty_bne])),H',⟨by have:=HK1.out;omega⟩,⟨by (with_reducible repeat (first|apply zk1|apply zk2|apply zk3));exact HO_5.out⟩,⟨by (with_reducible repeat (first|apply zb1|apply zb2|apply zb3));exact BK191.out⟩,⟨by repeat (first|(with_reducible first|exact HB.out|apply zl1|apply zl2|apply zl3|refine below_set ?_ GE191.out)|exact HB.out)⟩⟩
     ·rw [if_neg c9] at H
      exact absurd H (by simp)
    ·rw [if_neg c8] at H
     exact absurd H (by simp)
   ·rw [if_neg c7] at H
    have c7b0:decide (x6_1 < 3)=false:=decide_eq_false c7
    clear c7
    by_cases c19:a0_0=1
    ·rw [if_pos c19] at H
     have c19b0:(a0_0 == 1)=true:=beq_iff_eq.mpr c19
     have c19b1:(a0_0 != 1)=false:=bne_eq_false_iff_eq.mpr c19
     clear c19
     by_cases c20:t193=true
     ·subst c20
      have H1:((factotumref02_Right.f a0_4 a0_5 a0_6).bind fun t200=>(if t200=true then (some (decide ((a0_6.size:Int)≤10))) else (some false)))=some r:=by rw [if_pos rfl] at H;exact H
      clear H
      have H:=H1
      clear H1
      replace H:=Option.bind_eq_some_iff.mp H
      obtain ⟨t200,A210,H⟩:=H
      replace H:(if t200=true then (some (decide ((a0_6.size:Int)≤10))) else (some false))=some r:=H
      have A21:=Aside0.mk A210
      clear A210
      by_cases c22:t200=true
      ·subst c22
       have H1:(some (decide ((a0_6.size:Int)≤10)))=some r:=by rw [if_pos rfl] at H;exact H
       clear H
       have H:=H1
       clear H1
       obtain rfl:=Option.some.inj H
       obtain ⟨hcz23_0,hcz23_1,hcz23_2,hcz23_3,hcz23_4,hcz23_5,hcz23_6⟩:=zc7 BK191.out
       obtain ⟨hfz23_0,hfz23_1,hfz23_2,hfz23_3,hfz23_4,hfz23_5,hfz23_6⟩:=zf7 BK191.out
       go_wp2_with (first|(go_at_call 34;(with_reducible refine (factotumref02_Right.calls a0_4 a0_5 a0_6 true _ A21.out).mono ?_);rintro e w24 ⟨rfl,hb⟩;replace HO_5:=Aside0.mk (Kd.R_below (by (with_reducible repeat (first|apply zk1|apply zk2|apply zk3));exact HO_5.out) hb);replace BK191:=Aside0.mk (blk_below (g:=gb191) (o:=.cells #[.int .i64 a0_0,.int .i64 a0_1,.int .i64 a0_2,.int .i64 a0_3,.int .i64 a0_4,.int .i64 a0_5,.string a0_6] 42 (0,0)) (by (with_reducible repeat (first|apply zb1|apply zb2|apply zb3));exact BK191.out) hb);replace HB:=Aside0.mk (below_step (by repeat (first|(with_reducible first|exact HB.out|apply zl1|apply zl2|apply zl3|refine below_set ?_ GE191.out)|exact HB.out)) hb);(try clear hb);obtain ⟨hcz25_0,hcz25_1,hcz25_2,hcz25_3,hcz25_4,hcz25_5,hcz25_6⟩:=zc7 BK191.out;obtain ⟨hfz25_0,hfz25_1,hfz25_2,hfz25_3,hfz25_4,hfz25_5,hfz25_6⟩:=zf7 BK191.out))
       go_ret
       exact ⟨by first|(with_reducible rfl)|(simp only [isEmpty_bne,Bool.not_not] <;> rfl)|rfl|(simp [*,errW_none,errW_some] <;> rfl),by repeat (first|(with_reducible first|exact HB.out|apply zl1|apply zl2|apply zl3|refine below_set ?_ GE191.out)|exact HB.out)⟩
      ·replace c22:=Bool.eq_false_iff.mpr c22
       subst c22
       have H1:(some false)=some r:=by rw [if_neg (show ¬ (false=true) by decide)] at H;exact H
       clear H
       have H:=H1
       clear H1
       obtain rfl:=Option.some.inj H
       obtain ⟨hcz26_0,hcz26_1,hcz26_2,hcz26_3,hcz26_4,hcz26_5,hcz26_6⟩:=zc7 BK191.out
       obtain ⟨hfz26_0,hfz26_1,hfz26_2,hfz26_3,hfz26_4,hfz26_5,hfz26_6⟩:=zf7 BK191.out
       go_wp2_with (first|(go_at_call 34;(with_reducible refine (factotumref02_Right.calls a0_4 a0_5 a0_6 false _ A21.out).mono ?_);rintro e w27 ⟨rfl,hb⟩;replace HO_5:=Aside0.mk (Kd.R_below (by (with_reducible repeat (first|apply zk1|apply zk2|apply zk3));exact HO_5.out) hb);replace BK191:=Aside0.mk (blk_below (g:=gb191) (o:=.cells #[.int .i64 a0_0,.int .i64 a0_1,.int .i64 a0_2,.int .i64 a0_3,.int .i64 a0_4,.int .i64 a0_5,.string a0_6] 42 (0,0)) (by (with_reducible repeat (first|apply zb1|apply zb2|apply zb3));exact BK191.out) hb);replace HB:=Aside0.mk (below_step (by repeat (first|(with_reducible first|exact HB.out|apply zl1|apply zl2|apply zl3|refine below_set ?_ GE191.out)|exact HB.out)) hb);(try clear hb)))
       go_ret
       exact ⟨by first|(with_reducible rfl)|(simp only [isEmpty_bne,Bool.not_not] <;> rfl)|rfl|(simp [*,errW_none,errW_some] <;> rfl),by repeat (first|(with_reducible first|exact HB.out|apply zl1|apply zl2|apply zl3|refine below_set ?_ GE191.out)|exact HB.out)⟩
     ·replace c20:=Bool.eq_false_iff.mpr c20
      subst c20
      have H1:(some false)=some r:=by rw [if_neg (show ¬ (false=true) by decide)] at H;exact H
      clear H
      have H:=H1
      clear H1
      obtain rfl:=Option.some.inj H
      obtain ⟨hcz28_0,hcz28_1,hcz28_2,hcz28_3,hcz28_4,hcz28_5,hcz28_6⟩:=zc7 BK191.out
      obtain ⟨hfz28_0,hfz28_1,hfz28_2,hfz28_3,hfz28_4,hfz28_5,hfz28_6⟩:=zf7 BK191.out
      go_wp2
      go_ret
      exact ⟨by first|(with_reducible rfl)|(simp only [isEmpty_bne,Bool.not_not] <;> rfl)|rfl|(simp [*,errW_none,errW_some] <;> rfl),by repeat (first|(with_reducible first|exact HB.out|apply zl1|apply zl2|apply zl3|refine below_set ?_ GE191.out)|exact HB.out)⟩
    ·rw [if_neg c19] at H
     have c19b0:(a0_0 == 1)=false:=beq_eq_false_iff_ne.mpr c19
     have c19b1:(a0_0 != 1)=true:=bne_iff_ne.mpr c19
     by_cases c29:t193=true
     ·subst c29
      have H1:(some (a0_4 == 0 && (a0_5 == 0 && (a0_6.toList == ([]:List UInt8)))))=some r:=by rw [if_pos rfl] at H;exact H
      clear H
      have H:=H1
      clear H1
      obtain rfl:=Option.some.inj H
      obtain ⟨hcz30_0,hcz30_1,hcz30_2,hcz30_3,hcz30_4,hcz30_5,hcz30_6⟩:=zc7 BK191.out
      obtain ⟨hfz30_0,hfz30_1,hfz30_2,hfz30_3,hfz30_4,hfz30_5,hfz30_6⟩:=zf7 BK191.out
      go_wp2
      go_ret
      exact ⟨by first|(with_reducible rfl)|(simp only [isEmpty_bne,Bool.not_not] <;> rfl)|rfl|(simp [*,errW_none,errW_some] <;> rfl),by repeat (first|(with_reducible first|exact HB.out|apply zl1|apply zl2|apply zl3|refine below_set ?_ GE191.out)|exact HB.out)⟩
     ·replace c29:=Bool.eq_false_iff.mpr c29
      subst c29
      have H1:(some false)=some r:=by rw [if_neg (show ¬ (false=true) by decide)] at H;exact H
      clear H
      have H:=H1
      clear H1
      obtain rfl:=Option.some.inj H
      obtain ⟨hcz31_0,hcz31_1,hcz31_2,hcz31_3,hcz31_4,hcz31_5,hcz31_6⟩:=zc7 BK191.out
      obtain ⟨hfz31_0,hfz31_1,hfz31_2,hfz31_3,hfz31_4,hfz31_5,hfz31_6⟩:=zf7 BK191.out
      go_wp2
      go_ret
      exact ⟨by first|(with_reducible rfl)|(simp only [isEmpty_bne,Bool.not_not] <;> rfl)|rfl|(simp [*,errW_none,errW_some] <;> rfl),by repeat (first|(with_reducible first|exact HB.out|apply zl1|apply zl2|apply zl3|refine below_set ?_ GE191.out)|exact HB.out)⟩

end Go.Proofs.YtljfichnlgfikaaDoor.PAll
