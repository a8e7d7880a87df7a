/- Printed walks of the functions that the laws reach: each function, what it computes, and that it does. No conditions. -/
import Derived.Test.YtokjbncjapndgaaPAllx0
import Derived.Test.YtokjbncjapndgaaPAllx17
namespace Go.Proofs.Ytokjbncjapndgaa.PAll
open Go.RowKit Go.Proofs.Ytokjbncjapndgaa.XW Go.Proofs.Ytokjbncjapndgaa.XLib Go.Proofs.YtokjbncjapndgaaW.PrintWords Go.Proofs.YtokjbncjapndgaaW.PrintLast Go.Proofs.YtokjbncjapndgaaW.PrintMore
attribute [local go_sem] max2_int min2_int max_two min_two max_three min_three max_four min_four   -- for this text's walks alone
set_option linter.unusedVariables false
set_option linter.unusedSimpArgs false

/-! ### factotumref09_Size: function 11 -/
mutual
def factotumref09_Size.l1:Nat→Int→Int→Bool→List (S43)→List ByteArray→List Int→Option (Int)
 | 0,_,_,_,_,_,_=>none
 | k + 1,x3,x5,x329000,x329001,x329002,x329003=>if x5 < (x329001.length:Int) then (if 0≤x5 then ((factotumref09_pair.f ((rd_T43 x329001 x5).f0) ((rd_T43 x329001 x5).f1)).bind fun t331=>(factotumref09_Size.l1 k (wrap64 (x3 + t331)) (wrap64 (x5 + 1)) x329000 x329001 x329002 x329003)) else (none)) else (some x3)
def factotumref09_Size.l0:Nat→Int→Int→Bool→List (S43)→List ByteArray→List Int→Option (Int)
 | 0,_,_,_,_,_,_=>none
 | k + 1,x3,x4,x329000,x329001,x329002,x329003=>if x4 < (x329002.length:Int) then (if 0≤x4 then (factotumref09_Size.l0 k (wrap64 (x3 + (wrap64 (3 + ((rdOf ByteArray.empty x329002 x4).size:Int))))) (wrap64 (x4 + 1)) x329000 x329001 x329002 x329003) else (none)) else (some x3)
end
def factotumref09_Size.f (k:Nat) (a0_0:Bool) (l0_1:List (S43)) (l0_2:List ByteArray) (l0_3:List Int):Option (Int):=if a0_0=true then (factotumref09_Size.l1 k 2 0 a0_0 l0_1 l0_2 l0_3) else (factotumref09_Size.l0 k (2 + 2) 0 a0_0 l0_1 l0_2 l0_3)
theorem factotumref09_Size.mono_l:∀ k,(∀ y0 y1 y2 y3 y4 y5,LeO (factotumref09_Size.l1 k y0 y1 y2 y3 y4 y5) (factotumref09_Size.l1 (k + 1) y0 y1 y2 y3 y4 y5))∧(∀ y0 y1 y2 y3 y4 y5,LeO (factotumref09_Size.l0 k y0 y1 y2 y3 y4 y5) (factotumref09_Size.l0 (k + 1) y0 y1 y2 y3 y4 y5))
 | 0=>⟨fun _ _ _ _ _ _ r h=>by simp [factotumref09_Size.l1] at h,fun _ _ _ _ _ _ r h=>by simp [factotumref09_Size.l0] at h⟩
 | k + 1=>by
  obtain ⟨ih0,ih1⟩:=factotumref09_Size.mono_l k
  refine ⟨?_,?_⟩
  ·intro y0 y1 y2 y3 y4 y5
   unfold factotumref09_Size.l1
   repeat' first
   | (with_reducible exact ih0 _ _ _ _ _ _)
   | (with_reducible exact ih1 _ _ _ _ _ _)
   | (with_reducible exact LeO.refl _)
   | (with_reducible exact LeO.none _)
   | (with_reducible refine LeO.ite ?_ ?_)
   | (with_reducible refine LeO.bind ?_ (fun _=>?_))
   | exact ih0 _ _ _ _ _ _
   | exact ih1 _ _ _ _ _ _
   | exact LeO.none _
   | refine LeO.ite ?_ ?_
   | refine LeO.bind ?_ (fun _=>?_)
  ·intro y0 y1 y2 y3 y4 y5
   unfold factotumref09_Size.l0
   repeat' first
   | (with_reducible exact ih0 _ _ _ _ _ _)
   | (with_reducible exact ih1 _ _ _ _ _ _)
   | (with_reducible exact LeO.refl _)
   | (with_reducible exact LeO.none _)
   | (with_reducible refine LeO.ite ?_ ?_)
   | (with_reducible refine LeO.bind ?_ (fun _=>?_))
   | exact ih0 _ _ _ _ _ _
   | exact ih1 _ _ _ _ _ _
   | exact LeO.none _
   | refine LeO.ite ?_ ?_
   | refine LeO.bind ?_ (fun _=>?_)
theorem factotumref09_Size.mono:∀ a0 a1 a2 a3 k,LeO (factotumref09_Size.f k a0 a1 a2 a3) (factotumref09_Size.f (k + 1) a0 a1 a2 a3):=by
 intro a0 a1 a2 a3 k
 obtain ⟨ih0,ih1⟩:=factotumref09_Size.mono_l k
 unfold factotumref09_Size.f
 repeat' first
   | (with_reducible exact ih0 _ _ _ _ _ _)
   | (with_reducible exact ih1 _ _ _ _ _ _)
   | (with_reducible exact LeO.refl _)
   | (with_reducible exact LeO.none _)
   | (with_reducible refine LeO.ite ?_ ?_)
   | (with_reducible refine LeO.bind ?_ (fun _=>?_))
   | exact ih0 _ _ _ _ _ _
   | exact ih1 _ _ _ _ _ _
   | exact LeO.none _
   | refine LeO.ite ?_ ?_
   | refine LeO.bind ?_ (fun _=>?_)
set_option maxHeartbeats 8000000 in
set_option maxRecDepth 100000 in
theorem factotumref09_Size.calls (k:Nat) (a0_0:Bool) (A0_1:Option Addr) (c0_1:Nat) (l0_1:List (S43)) (A0_2:Option Addr) (c0_2:Nat) (l0_2:List ByteArray) (A0_3:Option Addr) (c0_3:Nat) (l0_3:List Int) (r:Int) (w:World) (hr0_1:Kd.C k43 w A0_1 l0_1.length l0_1) (hc0_1:l0_1.length≤c0_1) (hr0_2:Kd.C Kd.string w A0_2 l0_2.length l0_2) (hc0_2:l0_2.length≤c0_2) (hr0_3:Kd.C (Kd.int .i64) w A0_3 l0_3.length l0_3) (hc0_3:l0_3.length≤c0_3) (h:factotumref09_Size.f k a0_0 l0_1 l0_2 l0_3=some r) :
  Calls Try.prog 11 #[.agg #[.bool a0_0,.slice A0_1 l0_1.length c0_1,.slice A0_2 l0_2.length c0_2,.slice A0_3 l0_3.length c0_3]] w fun e w'=>e=.returned (.int .i64 r)∧Below w.heap.size w w':=by
 have hu26:=Try.underlying26
 have hu43:=Try.underlying43
 have HR0_1:=Aside0.mk hr0_1
 have HC0_1:=Aside0.mk hc0_1
 clear hr0_1 hc0_1
 have HR0_2:=Aside0.mk hr0_2
 have HC0_2:=Aside0.mk hc0_2
 clear hr0_2 hc0_2
 have HR0_3:=Aside0.mk hr0_3
 have HC0_3:=Aside0.mk hc0_3
 clear hr0_3 hc0_3
 have HB:=Aside0.mk (Below.refl w.heap.size w)
 have H:(if a0_0=true then (factotumref09_Size.l1 k 2 0 a0_0 l0_1 l0_2 l0_3) else (factotumref09_Size.l0 k (2 + 2) 0 a0_0 l0_1 l0_2 l0_3))=some r:=h
 clear h
 by_cases c2:a0_0=true
 ·subst c2
  have H1:(factotumref09_Size.l1 k 2 0 true l0_1 l0_2 l0_3)=some r:=by rw [if_pos rfl] at H;exact H
  clear H
  have H:=H1
  clear H1
  have H':=Aside0.mk H
  clear H
  go_enter Try.func11,Try.ntmps11
  go_wp2_with (first|((with_reducible refine gate_dst (N:=1) rfl ?_);refine box_event ?hg (N:=1) ?hd (cs:=#[.bool true,.slice A0_1 l0_1.length c0_1,.slice A0_2 l0_2.length c0_2,.slice A0_3 l0_3.length c0_3]) (t:=26) ?hr ?_;(case hd=>rfl);(case hg=>rfl);(case hr=>first|(go_simp;done)|(go_simp;rfl));intro gb328 hg w3 hbox hb;have BK328:=Aside0.mk (hbox);have GW328:=Aside0.mk ((by rw [hg];exact (below_size (by repeat (first|(with_reducible first|exact HB.out|apply zl1|apply zl2|apply zl3)|exact HB.out))):w.heap.size≤gb328));have GE328:=Aside0.mk ((by rw [hg];exact (below_size (by repeat (first|(with_reducible first|exact HB.out|apply zl1|apply zl2|apply zl3)|exact HB.out))):w.heap.size≤gb328));replace HB:=Aside0.mk (below_step (by repeat (first|(with_reducible first|exact HB.out|apply zl1|apply zl2|apply zl3)|exact HB.out)) hb);clear hb hbox hg;obtain ⟨hcz4_0,hcz4_1,hcz4_2,hcz4_3⟩:=zc4 BK328.out;obtain ⟨hfz4_0,hfz4_1,hfz4_2,hfz4_3⟩:=zf4 BK328.out))
  go_loopg [3,5] k (fun kq v3 v5 w'=>∃ (x3_1:Int) (x5_1:Int),v3=.int .i64 x3_1∧v5=.int .i64 x5_1∧Aside0 (factotumref09_Size.l1 kq x3_1 x5_1 true l0_1 l0_2 l0_3=some r)∧Aside0 (kq≤k)∧Aside0 (w'.heap[gb328]?=some (.cells #[.bool true,(.slice A0_1 l0_1.length c0_1),(.slice A0_2 l0_2.length c0_2),(.slice A0_3 l0_3.length c0_3)] 26 (0,0)))∧Aside0 (Below w.heap.size w w'))
  case atStart=>exact ⟨(2),(0),(by first|(with_reducible rfl)|(simp;done)|(simp [*];done)|rfl|(simp only [not_isEmpty_bne])),(by first|(with_reducible rfl)|(simp;done)|(simp [*];done)|rfl|(simp only [not_isEmpty_bne])),H',⟨Nat.le_refl _⟩,⟨by (with_reducible repeat (first|apply zb1|apply zb2|apply zb3));exact BK328.out⟩,⟨by repeat (first|(with_reducible first|exact HB.out|apply zl1|apply zl2|apply zl3|refine below_set ?_ GE328.out)|exact HB.out)⟩⟩
  case round =>
   clear H'
   try clear hfz4_0 hfz4_1 hfz4_2 hfz4_3
   try clear hcz4_0 hcz4_1 hcz4_2 hcz4_3
   try clear c1
   try clear c2
   try clear p2
   obtain ⟨x3_1,x5_1,rfl,rfl,HA,HK1,BK328,HB⟩:=hrel
   cases gk with
   | zero=>exact absurd HA.out (by simp [factotumref09_Size.l1])
   | succ k1 =>
    have H:=HA.out
    clear HA
    simp only [factotumref09_Size.l1] at H
    by_cases c5:x5_1 < (l0_1.length:Int)
    ·rw [if_pos c5] at H
     have c5b0:decide (x5_1 < (l0_1.length:Int))=true:=decide_eq_true c5
     clear c5
     by_cases c6:0≤x5_1
     ·rw [if_pos c6] at H
      have c6b0:decide (0≤x5_1)=true:=decide_eq_true c6
      clear c6
      replace H:=Option.bind_eq_some_iff.mp H
      obtain ⟨t331,A70,H⟩:=H
      replace H:(factotumref09_Size.l1 k1 (wrap64 (x3_1 + t331)) (wrap64 (x5_1 + 1)) true l0_1 l0_2 l0_3)=some r:=H
      have A7:=Aside0.mk A70
      clear A70
      have H':=Aside0.mk H
      clear H
      obtain ⟨hcz8_0,hcz8_1,hcz8_2,hcz8_3⟩:=zc4 BK328.out
      obtain ⟨hfz8_0,hfz8_1,hfz8_2,hfz8_3⟩:=zf4 BK328.out
      have p330:0≤(x5_1:Int):=of_decide_eq_true (by first|(with_reducible assumption)|assumption)
      have q330:x5_1 < (l0_1.length:Int):=of_decide_eq_true (by first|(with_reducible assumption)|assumption)
      obtain ⟨ad330,e330,hx330_0,hx330_1⟩:=at_T43 HR0_1.out x5_1 p330 q330
      cases e330
      replace hx330_0:=(HB.out.cell (World.block_lt_of_cell? w _ hx330_0)).trans hx330_0
      replace hx330_1:=(HB.out.cell (World.block_lt_of_cell? w _ hx330_1)).trans hx330_1
      replace p330:=eq_true p330
      replace q330:=eq_true q330
      go_wp2_with (first|((with_reducible refine gate_callee (f:=30) rfl ?_);refine goesL_ (some 41) rfl rfl Try.func30 (by kernel_rfl) rfl #[.agg #[.string ((rd_T43 l0_1 x5_1).f0),.string ((rd_T43 l0_1 x5_1).f1)]] rfl (by (try simp only [List.map_toArray,List.map_cons,List.map_nil]);first|done|rfl|(simp only [List.length_drop,List.length_take];rfl)|(simp (disch:=omega) only [u64_in];rfl)) ?_;(with_reducible refine (factotumref09_pair.calls ((rd_T43 l0_1 x5_1).f0) ((rd_T43 l0_1 x5_1).f1) t331 _ A7.out).mono ?_);rintro e w9 ⟨rfl,hb⟩;refine ⟨_,rfl,?_⟩;replace BK328:=Aside0.mk (blk_below (g:=gb328) (o:=.cells #[.bool true,.slice (some ad330) l0_1.length c0_1,.slice A0_2 l0_2.length c0_2,.slice A0_3 l0_3.length c0_3] 26 (0,0)) (by (with_reducible repeat (first|apply zb1|apply zb2|apply zb3));exact BK328.out) hb);replace HB:=Aside0.mk (below_step (by repeat (first|(with_reducible first|exact HB.out|apply zl1|apply zl2|apply zl3|refine below_set ?_ GE328.out)|exact HB.out)) hb);(try clear hb)))
      go_roundg k1
      case measure=>have:=HK1.out;omega
      case rel=>exact ⟨(wrap64 (x3_1 + t331)),(wrap64 (x5_1 + 1)),(by first|(with_reducible rfl)|(simp;done)|(simp [*];done)|rfl|(simp only [not_isEmpty_bne])),(by first|(with_reducible rfl)|(simp;done)|(simp [*];done)|rfl|(simp only [not_isEmpty_bne])),H',⟨by have:=HK1.out;omega⟩,⟨by (with_reducible repeat (first|apply zb1|apply zb2|apply zb3));exact BK328.out⟩,⟨by repeat (first|(with_reducible first|exact HB.out|apply zl1|apply zl2|apply zl3|refine below_set ?_ GE328.out)|exact HB.out)⟩⟩
     ·rw [if_neg c6] at H
      exact absurd H (by simp)
    ·rw [if_neg c5] at H
     have c5b0:decide (x5_1 < (l0_1.length:Int))=false:=decide_eq_false c5
     clear c5
     obtain rfl:=Option.some.inj H
     obtain ⟨hcz10_0,hcz10_1,hcz10_2,hcz10_3⟩:=zc4 BK328.out
     obtain ⟨hfz10_0,hfz10_1,hfz10_2,hfz10_3⟩:=zf4 BK328.out
     go_wp2
     go_ret
     exact ⟨by first|(with_reducible rfl)|(simp only [isEmpty_bne,Bool.not_not] <;> rfl)|rfl|(simp [*,errW_none,errW_some] <;> rfl),by repeat (first|(with_reducible first|exact HB.out|apply zl1|apply zl2|apply zl3|refine below_set ?_ GE328.out)|exact HB.out)⟩
 ·replace c2:=Bool.eq_false_iff.mpr c2
  subst c2
  have H1:(factotumref09_Size.l0 k (2 + 2) 0 false l0_1 l0_2 l0_3)=some r:=by rw [if_neg (show ¬ (false=true) by decide)] at H;exact H
  clear H
  have H:=H1
  clear H1
  have H':=Aside0.mk H
  clear H
  go_enter Try.func11,Try.ntmps11
  go_wp2_with (first|((with_reducible refine gate_dst (N:=1) rfl ?_);refine box_event ?hg (N:=1) ?hd (cs:=#[.bool false,.slice A0_1 l0_1.length c0_1,.slice A0_2 l0_2.length c0_2,.slice A0_3 l0_3.length c0_3]) (t:=26) ?hr ?_;(case hd=>rfl);(case hg=>rfl);(case hr=>first|(go_simp;done)|(go_simp;rfl));intro gb328 hg w11 hbox hb;have BK328:=Aside0.mk (hbox);have GW328:=Aside0.mk ((by rw [hg];exact (below_size (by repeat (first|(with_reducible first|exact HB.out|apply zl1|apply zl2|apply zl3)|exact HB.out))):w.heap.size≤gb328));have GE328:=Aside0.mk ((by rw [hg];exact (below_size (by repeat (first|(with_reducible first|exact HB.out|apply zl1|apply zl2|apply zl3)|exact HB.out))):w.heap.size≤gb328));replace HB:=Aside0.mk (below_step (by repeat (first|(with_reducible first|exact HB.out|apply zl1|apply zl2|apply zl3)|exact HB.out)) hb);clear hb hbox hg;obtain ⟨hcz12_0,hcz12_1,hcz12_2,hcz12_3⟩:=zc4 BK328.out;obtain ⟨hfz12_0,hfz12_1,hfz12_2,hfz12_3⟩:=zf4 BK328.out))
  go_loopg [3,4] k (fun kq v3 v4 w'=>∃ (x3_1:Int) (x4_1:Int),v3=.int .i64 x3_1∧v4=.int .i64 x4_1∧Aside0 (factotumref09_Size.l0 kq x3_1 x4_1 false l0_1 l0_2 l0_3=some r)∧Aside0 (kq≤k)∧Aside0 (w'.heap[gb328]?=some (.cells #[.bool false,(.slice A0_1 l0_1.length c0_1),(.slice A0_2 l0_2.length c0_2),(.slice A0_3 l0_3.length c0_3)] 26 (0,0)))∧Aside0 (Below w.heap.size w w'))
  case atStart=>exact ⟨(2 + 2),(0),(by first|(with_reducible rfl)|(simp;done)|(simp [*];done)|rfl|(simp only [not_isEmpty_bne])),(by first|(with_reducible rfl)|(simp;done)|(simp [*];done)|rfl|(simp only [not_isEmpty_bne])),H',⟨Nat.le_refl _⟩,⟨by (with_reducible repeat (first|apply zb1|apply zb2|apply zb3));exact BK328.out⟩,⟨by repeat (first|(with_reducible first|exact HB.out|apply zl1|apply zl2|apply zl3|refine below_set ?_ GE328.out)|exact HB.out)⟩⟩
  case round =>
   clear H'
   try clear hfz10_0
   try clear hcz10_0 hcz10_1 hcz10_2 hcz10_3 hcz12_0 hcz12_1 hcz12_2 hcz12_3 hcz4_0 hcz4_1 hcz4_2 hcz4_3 hcz8_0 hcz8_1 hcz8_2 hcz8_3
   try clear c1
   try clear c2
   try clear p2
   try clear c3
   try clear p3
   try clear q3
   try clear hx3
   try clear c5
   try clear c5b0
   try clear c6
   try clear c6b0
   try clear p6
   try clear c11
   try clear hfz10_1 hfz10_2 hfz10_3 hfz12_0 hfz12_1 hfz12_2 hfz12_3 hfz4_0 hfz4_1 hfz4_2 hfz4_3 hfz8_0 hfz8_1 hfz8_2 hfz8_3
   try clear hx330_0
   try clear hx330_1
   try clear p2
   try clear p330
   try clear q330
   obtain ⟨x3_1,x4_1,rfl,rfl,HA,HK1,BK328,HB⟩:=hrel
   cases gk with
   | zero=>exact absurd HA.out (by simp [factotumref09_Size.l0])
   | succ k1 =>
    have H:=HA.out
    clear HA
    simp only [factotumref09_Size.l0] at H
    by_cases c13:x4_1 < (l0_2.length:Int)
    ·rw [if_pos c13] at H
     have c13b0:decide (x4_1 < (l0_2.length:Int))=true:=decide_eq_true c13
     clear c13
     by_cases c14:0≤x4_1
     ·rw [if_pos c14] at H
      have c14b0:decide (0≤x4_1)=true:=decide_eq_true c14
      clear c14
      have H':=Aside0.mk H
      clear H
      obtain ⟨hcz15_0,hcz15_1,hcz15_2,hcz15_3⟩:=zc4 BK328.out
      obtain ⟨hfz15_0,hfz15_1,hfz15_2,hfz15_3⟩:=zf4 BK328.out
      have p329:0≤(x4_1:Int):=of_decide_eq_true (by first|(with_reducible assumption)|assumption)
      have q329:x4_1 < (l0_2.length:Int):=of_decide_eq_true (by first|(with_reducible assumption)|assumption)
      obtain ⟨ad329,e329,hx329_0⟩:=Kd.at_string HR0_2.out x4_1 p329 q329
      cases e329
      replace hx329_0:=(HB.out.cell (World.block_lt_of_cell? w _ hx329_0)).trans hx329_0
      replace p329:=eq_true p329
      replace q329:=eq_true q329
      go_wp2
      go_roundg k1
      case measure=>have:=HK1.out;omega
      case rel=>exact ⟨(wrap64 (x3_1 + (wrap64 (3 + ((rdOf ByteArray.empty l0_2 x4_1).size:Int))))),(wrap64 (x4_1 + 1)),(by first|(with_reducible rfl)|(simp;done)|(simp [*];done)|rfl|(simp only [not_isEmpty_bne])),(by first|(with_reducible rfl)|(simp;done)|(simp [*];done)|rfl|(simp only [not_isEmpty_bne])),H',⟨by have:=HK1.out;omega⟩,⟨by (with_reducible repeat (first|apply zb1|apply zb2|apply zb3));exact BK328.out⟩,⟨by repeat (first|(with_reducible first|exact HB.out|apply zl1|apply zl2|apply zl3|refine below_set ?_ GE328.out)|exact HB.out)⟩⟩
     ·rw [if_neg c14] at H
      exact absurd H (by simp)
    ·rw [if_neg c13] at H
     have c13b0:decide (x4_1 < (l0_2.length:Int))=false:=decide_eq_false c13
     clear c13
     obtain rfl:=Option.some.inj H
     obtain ⟨hcz16_0,hcz16_1,hcz16_2,hcz16_3⟩:=zc4 BK328.out
     obtain ⟨hfz16_0,hfz16_1,hfz16_2,hfz16_3⟩:=zf4 BK328.out
     go_wp2
     go_ret
     exact ⟨by first|(with_reducible rfl)|(simp only [isEmpty_bne,Bool.not_not] <;> rfl)|rfl|(simp [*,errW_none,errW_some] <;> rfl),by repeat (first|(with_reducible first|exact HB.out|apply zl1|apply zl2|apply zl3|refine below_set ?_ GE328.out)|exact HB.out)⟩

end Go.Proofs.Ytokjbncjapndgaa.PAll
