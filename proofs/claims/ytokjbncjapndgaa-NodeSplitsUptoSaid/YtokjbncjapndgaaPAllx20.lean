/- Printed walks of the functions that the laws reach: each function, what it computes, and that it does. No conditions. -/
import Derived.Test.YtokjbncjapndgaaPAllx0
import Derived.Test.YtokjbncjapndgaaPAllx1
namespace Go.Proofs.Ytokjbncjapndgaa.PAll
open Go.RowKit Go.Proofs.Ytokjbncjapndgaa.XW Go.Proofs.Ytokjbncjapndgaa.XLib Go.Proofs.YtokjbncjapndgaaW.PrintWords Go.Proofs.YtokjbncjapndgaaW.PrintLast Go.Proofs.YtokjbncjapndgaaW.PrintMore
attribute [local go_sem] max2_int min2_int max_two min_two max_three min_three max_four min_four   -- for this text's walks alone
set_option linter.unusedVariables false
set_option linter.unusedSimpArgs false

attribute [local go_sem high] eqA43
/-! ### factotumref09_Same: function 18 -/
mutual
def factotumref09_Same.j0:Nat→Bool→Bool→List (S43)→List ByteArray→List Int→Bool→List (S43)→List ByteArray→List Int→Option (Bool)
 | 0,_,_,_,_,_,_,_,_,_=>none
 | k + 1,x39,x408000,x408001,x408002,x408003,x409000,x409001,x409002,x409003=>if x39=true then (some false) else (factotumref09_Same.l0 k 0 x408000 x408001 x408002 x408003 x409000 x409001 x409002 x409003)
def factotumref09_Same.l0:Nat→Int→Bool→List (S43)→List ByteArray→List Int→Bool→List (S43)→List ByteArray→List Int→Option (Bool)
 | 0,_,_,_,_,_,_,_,_,_=>none
 | k + 1,x5,x408000,x408001,x408002,x408003,x409000,x409001,x409002,x409003=>if x5 < (x408001.length:Int) then (if 0≤x5 then (if x5 < (x409001.length:Int) then (if (!((((rd_T43 x408001 x5).f0).toList) == (((rd_T43 x409001 x5).f0).toList)) || (!((((rd_T43 x408001 x5).f1).toList) == (((rd_T43 x409001 x5).f1).toList))))=true then (some false) else (factotumref09_Same.l0 k (wrap64 (x5 + 1)) x408000 x408001 x408002 x408003 x409000 x409001 x409002 x409003)) else (none)) else (none)) else (factotumref09_Same.l1 k 0 x408000 x408001 x408002 x408003 x409000 x409001 x409002 x409003)
def factotumref09_Same.l1:Nat→Int→Bool→List (S43)→List ByteArray→List Int→Bool→List (S43)→List ByteArray→List Int→Option (Bool)
 | 0,_,_,_,_,_,_,_,_,_=>none
 | k + 1,x6,x408000,x408001,x408002,x408003,x409000,x409001,x409002,x409003=>if x6 < (x408002.length:Int) then (if 0≤x6 then (if x6 < (x409002.length:Int) then (if (rdOf ByteArray.empty x408002 x6).toList=(rdOf ByteArray.empty x409002 x6).toList then (factotumref09_Same.l1 k (wrap64 (x6 + 1)) x408000 x408001 x408002 x408003 x409000 x409001 x409002 x409003) else (some false)) else (none)) else (none)) else (factotumref09_Same.l2 k 0 x408000 x408001 x408002 x408003 x409000 x409001 x409002 x409003)
def factotumref09_Same.l2:Nat→Int→Bool→List (S43)→List ByteArray→List Int→Bool→List (S43)→List ByteArray→List Int→Option (Bool)
 | 0,_,_,_,_,_,_,_,_,_=>none
 | k + 1,x7,x408000,x408001,x408002,x408003,x409000,x409001,x409002,x409003=>if x7 < (x408003.length:Int) then (if 0≤x7 then (if x7 < (x409003.length:Int) then (if (rd x408003 x7)=(rd x409003 x7) then (factotumref09_Same.l2 k (wrap64 (x7 + 1)) x408000 x408001 x408002 x408003 x409000 x409001 x409002 x409003) else (some false)) else (none)) else (none)) else (some true)
end
def factotumref09_Same.f (k:Nat) (a0_0:Bool) (l0_1:List (S43)) (l0_2:List ByteArray) (l0_3:List Int) (a1_0:Bool) (l1_1:List (S43)) (l1_2:List ByteArray) (l1_3:List Int):Option (Bool):=if (a0_0 != a1_0)=true then (factotumref09_Same.j0 k true a0_0 l0_1 l0_2 l0_3 a1_0 l1_1 l1_2 l1_3) else (if (l0_1.length:Int)=(l1_1.length:Int) then (if (l0_2.length:Int)=(l1_2.length:Int) then (factotumref09_Same.j0 k ((l0_3.length:Int) != (l1_3.length:Int)) a0_0 l0_1 l0_2 l0_3 a1_0 l1_1 l1_2 l1_3) else (factotumref09_Same.j0 k true a0_0 l0_1 l0_2 l0_3 a1_0 l1_1 l1_2 l1_3)) else (factotumref09_Same.j0 k true a0_0 l0_1 l0_2 l0_3 a1_0 l1_1 l1_2 l1_3))
theorem factotumref09_Same.mono_l:∀ k,(∀ y0 y1 y2 y3 y4 y5 y6 y7 y8,LeO (factotumref09_Same.j0 k y0 y1 y2 y3 y4 y5 y6 y7 y8) (factotumref09_Same.j0 (k + 1) y0 y1 y2 y3 y4 y5 y6 y7 y8))∧(∀ y0 y1 y2 y3 y4 y5 y6 y7 y8,LeO (factotumref09_Same.l0 k y0 y1 y2 y3 y4 y5 y6 y7 y8) (factotumref09_Same.l0 (k + 1) y0 y1 y2 y3 y4 y5 y6 y7 y8))∧(∀ y0 y1 y2 y3 y4 y5 y6 y7 y8,LeO (factotumref09_Same.l1 k y0 y1 y2 y3 y4 y5 y6 y7 y8) (factotumref09_Same.l1 (k + 1) y0 y1 y2 y3 y4 y5 y6 y7 y8))∧(∀ y0 y1 y2 y3 y4 y5 y6 y7 y8,LeO (factotumref09_Same.l2 k y0 y1 y2 y3 y4 y5 y6 y7 y8) (factotumref09_Same.l2 (k + 1) y0 y1 y2 y3 y4 y5 y6 y7 y8))
 | 0=>⟨fun _ _ _ _ _ _ _ _ _ r h=>by simp [factotumref09_Same.j0] at h,fun _ _ _ _ _ _ _ _ _ r h=>by simp [factotumref09_Same.l0] at h,fun _ _ _ _ _ _ _ _ _ r h=>by simp [factotumref09_Same.l1] at h,fun _ _ _ _ _ _ _ _ _ r h=>by simp [factotumref09_Same.l2] at h⟩
 | k + 1=>by
  obtain ⟨ih0,ih1,ih2,ih3⟩:=factotumref09_Same.mono_l k
  refine ⟨?_,?_,?_,?_⟩
  ·intro y0 y1 y2 y3 y4 y5 y6 y7 y8
   unfold factotumref09_Same.j0
   repeat' first
   | (with_reducible exact ih0 _ _ _ _ _ _ _ _ _)
   | (with_reducible exact ih1 _ _ _ _ _ _ _ _ _)
   | (with_reducible exact ih2 _ _ _ _ _ _ _ _ _)
   | (with_reducible exact ih3 _ _ _ _ _ _ _ _ _)
   | (with_reducible exact LeO.refl _)
   | (with_reducible exact LeO.none _)
   | (with_reducible refine LeO.ite ?_ ?_)
   | (with_reducible refine LeO.bind ?_ (fun _=>?_))
   | exact ih0 _ _ _ _ _ _ _ _ _
   | exact ih1 _ _ _ _ _ _ _ _ _
   | exact ih2 _ _ _ _ _ _ _ _ _
   | exact ih3 _ _ _ _ _ _ _ _ _
   | exact LeO.none _
   | refine LeO.ite ?_ ?_
   | refine LeO.bind ?_ (fun _=>?_)
  ·intro y0 y1 y2 y3 y4 y5 y6 y7 y8
   unfold factotumref09_Same.l0
   repeat' first
   | (with_reducible exact ih0 _ _ _ _ _ _ _ _ _)
   | (with_reducible exact ih1 _ _ _ _ _ _ _ _ _)
   | (with_reducible exact ih2 _ _ _ _ _ _ _ _ _)
   | (with_reducible exact ih3 _ _ _ _ _ _ _ _ _)
   | (with_reducible exact LeO.refl _)
   | (with_reducible exact LeO.none _)
   | (with_reducible refine LeO.ite ?_ ?_)
   | (with_reducible refine LeO.bind ?_ (fun _=>?_))
   | exact ih0 _ _ _ _ _ _ _ _ _
   | exact ih1 _ _ _ _ _ _ _ _ _
   | exact ih2 _ _ _ _ _ _ _ _ _
   | exact ih3 _ _ _ _ _ _ _ _ _
   | exact LeO.none _
   | refine LeO.ite ?_ ?_
   | refine LeO.bind ?_ (fun _=>?_)
  ·intro y0 y1 y2 y3 y4 y5 y6 y7 y8
   unfold factotumref09_Same.l1
   repeat' first
   | (with_reducible exact ih0 _ _ _ _ _ _ _ _ _)
   | (with_reducible exact ih1 _ _ _ _ _ _ _ _ _)
   | (with_reducible exact ih2 _ _ _ _ _ _ _ _ _)
   | (with_reducible exact ih3 _ _ _ _ _ _ _ _ _)
   | (with_reducible exact LeO.refl _)
   | (with_reducible exact LeO.none _)
   | (with_reducible refine LeO.ite ?_ ?_)
   | (with_reducible refine LeO.bind ?_ (fun _=>?_))
   | exact ih0 _ _ _ _ _ _ _ _ _
   | exact ih1 _ _ _ _ _ _ _ _ _
   | exact ih2 _ _ _ _ _ _ _ _ _
   | exact ih3 _ _ _ _ _ _ _ _ _
   | exact LeO.none _
   | refine LeO.ite ?_ ?_
   | refine LeO.bind ?_ (fun _=>?_)
  ·intro y0 y1 y2 y3 y4 y5 y6 y7 y8
   unfold factotumref09_Same.l2
   repeat' first
   | (with_reducible exact ih0 _ _ _ _ _ _ _ _ _)
   | (with_reducible exact ih1 _ _ _ _ _ _ _ _ _)
   | (with_reducible exact ih2 _ _ _ _ _ _ _ _ _)
   | (with_reducible exact ih3 _ _ _ _ _ _ _ _ _)
   | (with_reducible exact LeO.refl _)
   | (with_reducible exact LeO.none _)
   | (with_reducible refine LeO.ite ?_ ?_)
   | (with_reducible refine LeO.bind ?_ (fun _=>?_))
   | exact ih0 _ _ _ _ _ _ _ _ _
   | exact ih1 _ _ _ _ _ _ _ _ _
   | exact ih2 _ _ _ _ _ _ _ _ _
   | exact ih3 _ _ _ _ _ _ _ _ _
   | exact LeO.none _
   | refine LeO.ite ?_ ?_
   | refine LeO.bind ?_ (fun _=>?_)
theorem factotumref09_Same.mono:∀ a0 a1 a2 a3 a4 a5 a6 a7 k,LeO (factotumref09_Same.f k a0 a1 a2 a3 a4 a5 a6 a7) (factotumref09_Same.f (k + 1) a0 a1 a2 a3 a4 a5 a6 a7):=by
 intro a0 a1 a2 a3 a4 a5 a6 a7 k
 obtain ⟨ih0,ih1,ih2,ih3⟩:=factotumref09_Same.mono_l k
 unfold factotumref09_Same.f
 repeat' first
   | (with_reducible exact ih0 _ _ _ _ _ _ _ _ _)
   | (with_reducible exact ih1 _ _ _ _ _ _ _ _ _)
   | (with_reducible exact ih2 _ _ _ _ _ _ _ _ _)
   | (with_reducible exact ih3 _ _ _ _ _ _ _ _ _)
   | (with_reducible exact LeO.refl _)
   | (with_reducible exact LeO.none _)
   | (with_reducible refine LeO.ite ?_ ?_)
   | (with_reducible refine LeO.bind ?_ (fun _=>?_))
   | exact ih0 _ _ _ _ _ _ _ _ _
   | exact ih1 _ _ _ _ _ _ _ _ _
   | exact ih2 _ _ _ _ _ _ _ _ _
   | exact ih3 _ _ _ _ _ _ _ _ _
   | exact LeO.none _
   | refine LeO.ite ?_ ?_
   | refine LeO.bind ?_ (fun _=>?_)
set_option maxHeartbeats 8000000 in
set_option maxRecDepth 100000 in
theorem factotumref09_Same.calls (k:Nat) (a0_0:Bool) (A0_1:Option Addr) (c0_1:Nat) (l0_1:List (S43)) (A0_2:Option Addr) (c0_2:Nat) (l0_2:List ByteArray) (A0_3:Option Addr) (c0_3:Nat) (l0_3:List Int) (a1_0:Bool) (A1_1:Option Addr) (c1_1:Nat) (l1_1:List (S43)) (A1_2:Option Addr) (c1_2:Nat) (l1_2:List ByteArray) (A1_3:Option Addr) (c1_3:Nat) (l1_3:List Int) (r:Bool) (w:World) (hr0_1:Kd.C k43 w A0_1 l0_1.length l0_1) (hc0_1:l0_1.length≤c0_1) (hr0_2:Kd.C Kd.string w A0_2 l0_2.length l0_2) (hc0_2:l0_2.length≤c0_2) (hr0_3:Kd.C (Kd.int .i64) w A0_3 l0_3.length l0_3) (hc0_3:l0_3.length≤c0_3) (hr1_1:Kd.C k43 w A1_1 l1_1.length l1_1) (hc1_1:l1_1.length≤c1_1) (hr1_2:Kd.C Kd.string w A1_2 l1_2.length l1_2) (hc1_2:l1_2.length≤c1_2) (hr1_3:Kd.C (Kd.int .i64) w A1_3 l1_3.length l1_3) (hc1_3:l1_3.length≤c1_3) (h:factotumref09_Same.f k a0_0 l0_1 l0_2 l0_3 a1_0 l1_1 l1_2 l1_3=some r) :
  Calls Try.prog 18 #[.agg #[.bool a0_0,.slice A0_1 l0_1.length c0_1,.slice A0_2 l0_2.length c0_2,.slice A0_3 l0_3.length c0_3],.agg #[.bool a1_0,.slice A1_1 l1_1.length c1_1,.slice A1_2 l1_2.length c1_2,.slice A1_3 l1_3.length c1_3]] w fun e w'=>e=.returned (.bool r)∧Below w.heap.size w w':=by
 have hu26:=Try.underlying26
 have hu43:=Try.underlying43
 have HR0_1:=Aside0.mk hr0_1
 have HC0_1:=Aside0.mk hc0_1
 clear hr0_1 hc0_1
 have HR0_2:=Aside0.mk hr0_2
 have HC0_2:=Aside0.mk hc0_2
 clear hr0_2 hc0_2
 have HR0_3:=Aside0.mk hr0_3
 have HC0_3:=Aside0.mk hc0_3
 clear hr0_3 hc0_3
 have HR1_1:=Aside0.mk hr1_1
 have HC1_1:=Aside0.mk hc1_1
 clear hr1_1 hc1_1
 have HR1_2:=Aside0.mk hr1_2
 have HC1_2:=Aside0.mk hc1_2
 clear hr1_2 hc1_2
 have HR1_3:=Aside0.mk hr1_3
 have HC1_3:=Aside0.mk hc1_3
 clear hr1_3 hc1_3
 have HB:=Aside0.mk (Below.refl w.heap.size w)
 have H:(if (a0_0 != a1_0)=true then (factotumref09_Same.j0 k true a0_0 l0_1 l0_2 l0_3 a1_0 l1_1 l1_2 l1_3) else (if (l0_1.length:Int)=(l1_1.length:Int) then (if (l0_2.length:Int)=(l1_2.length:Int) then (factotumref09_Same.j0 k ((l0_3.length:Int) != (l1_3.length:Int)) a0_0 l0_1 l0_2 l0_3 a1_0 l1_1 l1_2 l1_3) else (factotumref09_Same.j0 k true a0_0 l0_1 l0_2 l0_3 a1_0 l1_1 l1_2 l1_3)) else (factotumref09_Same.j0 k true a0_0 l0_1 l0_2 l0_3 a1_0 l1_1 l1_2 l1_3)))=some r:=h
 clear h
 have HC3:=Aside0.mk H
 clear H
 go_enter Try.func18,Try.ntmps18
 go_upto_region 1 with (first|((with_reducible refine gate_dst (N:=2) rfl ?_);(try (refine gate_guard (by rfl) ?_;dsimp only));refine box_event ?hg (N:=2) ?hd (cs:=#[.bool a0_0,.slice A0_1 l0_1.length c0_1,.slice A0_2 l0_2.length c0_2,.slice A0_3 l0_3.length c0_3]) (t:=26) ?hr ?_;(case hd=>rfl);(case hg=>rfl);(case hr=>first|(go_simp;done)|(go_simp;rfl));intro gb407 hg w4 hbox hb;have BK407:=Aside0.mk (hbox);have GW407:=Aside0.mk ((by rw [hg];exact (below_size (by repeat (first|(with_reducible first|exact HB.out|apply zl1|apply zl2|apply zl3)|exact HB.out))):w.heap.size≤gb407));have GE407:=Aside0.mk ((by rw [hg];exact (below_size (by repeat (first|(with_reducible first|exact HB.out|apply zl1|apply zl2|apply zl3)|exact HB.out))):w.heap.size≤gb407));replace HB:=Aside0.mk (below_step (by repeat (first|(with_reducible first|exact HB.out|apply zl1|apply zl2|apply zl3)|exact HB.out)) hb);clear hb hbox hg)|((with_reducible refine gate_dst (N:=3) rfl ?_);(try (refine gate_guard (by rfl) ?_;dsimp only));refine box_event ?hg (N:=3) ?hd (cs:=#[.bool a1_0,.slice A1_1 l1_1.length c1_1,.slice A1_2 l1_2.length c1_2,.slice A1_3 l1_3.length c1_3]) (t:=26) ?hr ?_;(case hd=>rfl);(case hg=>rfl);(case hr=>first|(go_simp;done)|(go_simp;rfl));intro gb408 hg w5 hbox hb;have BK408:=Aside0.mk (hbox);have GW408:=Aside0.mk ((by rw [hg];exact (below_size (by repeat (first|(with_reducible first|exact HB.out|apply zl1|apply zl2|apply zl3|refine below_set ?_ GE407.out)|exact HB.out))):w.heap.size≤gb408));have GE408:=Aside0.mk ((by rw [hg];exact (below_size (by repeat (first|(with_reducible first|exact HB.out|apply zl1|apply zl2|apply zl3|refine below_set ?_ GE407.out)|exact HB.out))):w.heap.size≤gb408));replace HB:=Aside0.mk (below_step (by repeat (first|(with_reducible first|exact HB.out|apply zl1|apply zl2|apply zl3|refine below_set ?_ GE407.out)|exact HB.out)) hb);have NB407_408:=Aside0.mk ((by rw [hg];exact Nat.ne_of_lt (blk_lt (g:=gb407) (o:=.cells #[.bool a0_0,.slice A0_1 l0_1.length c0_1,.slice A0_2 l0_2.length c0_2,.slice A0_3 l0_3.length c0_3] 26 (0,0)) (by (with_reducible repeat (first|apply zb1|apply zb2|apply zb3));exact BK407.out)):gb407 ≠ gb408));have NB408_407:=Aside0.mk ((by rw [hg];exact Nat.ne_of_gt (blk_lt (g:=gb407) (o:=.cells #[.bool a0_0,.slice A0_1 l0_1.length c0_1,.slice A0_2 l0_2.length c0_2,.slice A0_3 l0_3.length c0_3] 26 (0,0)) (by (with_reducible repeat (first|apply zb1|apply zb2|apply zb3));exact BK407.out)):gb408 ≠ gb407));replace BK407:=Aside0.mk (blk_below (g:=gb407) (o:=.cells #[.bool a0_0,.slice A0_1 l0_1.length c0_1,.slice A0_2 l0_2.length c0_2,.slice A0_3 l0_3.length c0_3] 26 (0,0)) (by (with_reducible repeat (first|apply zb1|apply zb2|apply zb3));exact BK407.out) hb);clear hb hbox hg))
 repeat (go_quiet (first|((with_reducible refine gate_dst (N:=2) rfl ?_);(try (refine gate_guard (by rfl) ?_;dsimp only));refine box_event ?hg (N:=2) ?hd (cs:=#[.bool a0_0,.slice A0_1 l0_1.length c0_1,.slice A0_2 l0_2.length c0_2,.slice A0_3 l0_3.length c0_3]) (t:=26) ?hr ?_;(case hd=>rfl);(case hg=>rfl);(case hr=>first|(go_simp;done)|(go_simp;rfl));intro gb407 hg w4 hbox hb;have BK407:=Aside0.mk (hbox);have GW407:=Aside0.mk ((by rw [hg];exact (below_size (by repeat (first|(with_reducible first|exact HB.out|apply zl1|apply zl2|apply zl3)|exact HB.out))):w.heap.size≤gb407));have GE407:=Aside0.mk ((by rw [hg];exact (below_size (by repeat (first|(with_reducible first|exact HB.out|apply zl1|apply zl2|apply zl3)|exact HB.out))):w.heap.size≤gb407));replace HB:=Aside0.mk (below_step (by repeat (first|(with_reducible first|exact HB.out|apply zl1|apply zl2|apply zl3)|exact HB.out)) hb);clear hb hbox hg)|((with_reducible refine gate_dst (N:=3) rfl ?_);(try (refine gate_guard (by rfl) ?_;dsimp only));refine box_event ?hg (N:=3) ?hd (cs:=#[.bool a1_0,.slice A1_1 l1_1.length c1_1,.slice A1_2 l1_2.length c1_2,.slice A1_3 l1_3.length c1_3]) (t:=26) ?hr ?_;(case hd=>rfl);(case hg=>rfl);(case hr=>first|(go_simp;done)|(go_simp;rfl));intro gb408 hg w5 hbox hb;have BK408:=Aside0.mk (hbox);have GW408:=Aside0.mk ((by rw [hg];exact (below_size (by repeat (first|(with_reducible first|exact HB.out|apply zl1|apply zl2|apply zl3|refine below_set ?_ GE407.out)|exact HB.out))):w.heap.size≤gb408));have GE408:=Aside0.mk ((by rw [hg];exact (below_size (by repeat (first|(with_reducible first|exact HB.out|apply zl1|apply zl2|apply zl3|refine below_set ?_ GE407.out)|exact HB.out))):w.heap.size≤gb408));replace HB:=Aside0.mk (below_step (by repeat (first|(with_reducible first|exact HB.out|apply zl1|apply zl2|apply zl3|refine below_set ?_ GE407.out)|exact HB.out)) hb);have NB407_408:=Aside0.mk ((by rw [hg];exact Nat.ne_of_lt (blk_lt (g:=gb407) (o:=.cells #[.bool a0_0,.slice A0_1 l0_1.length c0_1,.slice A0_2 l0_2.length c0_2,.slice A0_3 l0_3.length c0_3] 26 (0,0)) (by (with_reducible repeat (first|apply zb1|apply zb2|apply zb3));exact BK407.out)):gb407 ≠ gb408));have NB408_407:=Aside0.mk ((by rw [hg];exact Nat.ne_of_gt (blk_lt (g:=gb407) (o:=.cells #[.bool a0_0,.slice A0_1 l0_1.length c0_1,.slice A0_2 l0_2.length c0_2,.slice A0_3 l0_3.length c0_3] 26 (0,0)) (by (with_reducible repeat (first|apply zb1|apply zb2|apply zb3));exact BK407.out)):gb408 ≠ gb407));replace BK407:=Aside0.mk (blk_below (g:=gb407) (o:=.cells #[.bool a0_0,.slice A0_1 l0_1.length c0_1,.slice A0_2 l0_2.length c0_2,.slice A0_3 l0_3.length c0_3] 26 (0,0)) (by (with_reducible repeat (first|apply zb1|apply zb2|apply zb3));exact BK407.out) hb);clear hb hbox hg));go_upto_region 1 with (first|((with_reducible refine gate_dst (N:=2) rfl ?_);(try (refine gate_guard (by rfl) ?_;dsimp only));refine box_event ?hg (N:=2) ?hd (cs:=#[.bool a0_0,.slice A0_1 l0_1.length c0_1,.slice A0_2 l0_2.length c0_2,.slice A0_3 l0_3.length c0_3]) (t:=26) ?hr ?_;(case hd=>rfl);(case hg=>rfl);(case hr=>first|(go_simp;done)|(go_simp;rfl));intro gb407 hg w4 hbox hb;have BK407:=Aside0.mk (hbox);have GW407:=Aside0.mk ((by rw [hg];exact (below_size (by repeat (first|(with_reducible first|exact HB.out|apply zl1|apply zl2|apply zl3)|exact HB.out))):w.heap.size≤gb407));have GE407:=Aside0.mk ((by rw [hg];exact (below_size (by repeat (first|(with_reducible first|exact HB.out|apply zl1|apply zl2|apply zl3)|exact HB.out))):w.heap.size≤gb407));replace HB:=Aside0.mk (below_step (by repeat (first|(with_reducible first|exact HB.out|apply zl1|apply zl2|apply zl3)|exact HB.out)) hb);clear hb hbox hg)|((with_reducible refine gate_dst (N:=3) rfl ?_);(try (refine gate_guard (by rfl) ?_;dsimp only));refine box_event ?hg (N:=3) ?hd (cs:=#[.bool a1_0,.slice A1_1 l1_1.length c1_1,.slice A1_2 l1_2.length c1_2,.slice A1_3 l1_3.length c1_3]) (t:=26) ?hr ?_;(case hd=>rfl);(case hg=>rfl);(case hr=>first|(go_simp;done)|(go_simp;rfl));intro gb408 hg w5 hbox hb;have BK408:=Aside0.mk (hbox);have GW408:=Aside0.mk ((by rw [hg];exact (below_size (by repeat (first|(with_reducible first|exact HB.out|apply zl1|apply zl2|apply zl3|refine below_set ?_ GE407.out)|exact HB.out))):w.heap.size≤gb408));have GE408:=Aside0.mk ((by rw [hg];exact (below_size (by repeat (first|(with_reducible first|exact HB.out|apply zl1|apply zl2|apply zl3|refine below_set ?_ GE407.out)|exact HB.out))):w.heap.size≤gb408));replace HB:=Aside0.mk (below_step (by repeat (first|(with_reducible first|exact HB.out|apply zl1|apply zl2|apply zl3|refine below_set ?_ GE407.out)|exact HB.out)) hb);have NB407_408:=Aside0.mk ((by rw [hg];exact Nat.ne_of_lt (blk_lt (g:=gb407) (o:=.cells #[.bool a0_0,.slice A0_1 l0_1.length c0_1,.slice A0_2 l0_2.length c0_2,.slice A0_3 l0_3.length c0_3] 26 (0,0)) (by (with_reducible repeat (first|apply zb1|apply zb2|apply zb3));exact BK407.out)):gb407 ≠ gb408));have NB408_407:=Aside0.mk ((by rw [hg];exact Nat.ne_of_gt (blk_lt (g:=gb407) (o:=.cells #[.bool a0_0,.slice A0_1 l0_1.length c0_1,.slice A0_2 l0_2.length c0_2,.slice A0_3 l0_3.length c0_3] 26 (0,0)) (by (with_reducible repeat (first|apply zb1|apply zb2|apply zb3));exact BK407.out)):gb408 ≠ gb407));replace BK407:=Aside0.mk (blk_below (g:=gb407) (o:=.cells #[.bool a0_0,.slice A0_1 l0_1.length c0_1,.slice A0_2 l0_2.length c0_2,.slice A0_3 l0_3.length c0_3] 26 (0,0)) (by (with_reducible repeat (first|apply zb1|apply zb2|apply zb3));exact BK407.out) hb);clear hb hbox hg)))
 (try simp only [Act.put,List.setIfInBounds_toArray,List.set_cons_zero,List.set_cons_succ])
 go_cut [39] (fun v39 wc=>∃ (kq:Nat) (x39_2:Bool),v39=.bool x39_2∧Aside0 (factotumref09_Same.j0 kq x39_2 a0_0 l0_1 l0_2 l0_3 a1_0 l1_1 l1_2 l1_3=some r)∧Aside0 (kq≤k)∧Aside0 (wc.heap[gb407]?=some (.cells #[.bool a0_0,(.slice A0_1 l0_1.length c0_1),(.slice A0_2 l0_2.length c0_2),(.slice A0_3 l0_3.length c0_3)] 26 (0,0)))∧Aside0 (wc.heap[gb408]?=some (.cells #[.bool a1_0,(.slice A1_1 l1_1.length c1_1),(.slice A1_2 l1_2.length c1_2),(.slice A1_3 l1_3.length c1_3)] 26 (0,0)))∧Aside0 (Below w.heap.size w wc))
 case first =>
  have H:=HC3.out
  clear HC3
  by_cases c6:(a0_0 != a1_0)=true
  ·rw [if_pos c6] at H
   have c6b0:(a0_0 != a1_0)=true:=c6
   (try (have c6b1:decide (a0_0=a1_0)=false:=by simpa using c6))
   (try (have c6b2:(a0_0 == a1_0)=false:=by simpa using c6))
   (try (have c6b3:¬ (a0_0=a1_0):=by simpa using c6))
   clear c6
   (first|rw [c6b0]|(simp only [i64_w,i32_w];rw [c6b0])|skip)
   have H':=Aside0.mk H
   clear H
   have hnb7:=NB407_408.out
   have hnc7:=NB408_407.out
   obtain ⟨hcz8_0,hcz8_1,hcz8_2,hcz8_3⟩:=zc4 BK407.out
   obtain ⟨hfz8_0,hfz8_1,hfz8_2,hfz8_3⟩:=zf4 BK407.out
   obtain ⟨hcz9_0,hcz9_1,hcz9_2,hcz9_3⟩:=zc4 BK408.out
   obtain ⟨hfz9_0,hfz9_1,hfz9_2,hfz9_3⟩:=zf4 BK408.out
   go_wp2
   repeat (go_quiet (fail);try go_wp2)
   go_meet
   case rel=>exact ⟨_,(true),(by first|(with_reducible rfl)|(simp;done)|(simp [*];done)|rfl|(simp only [not_isEmpty_bne])),H',⟨by first|omega|exact Nat.le_refl _⟩,⟨by (with_reducible repeat (first|apply zb1|apply zb2|apply zb3));exact BK407.out⟩,⟨by (with_reducible repeat (first|apply zb1|apply zb2|apply zb3));exact BK408.out⟩,⟨by repeat (first|(with_reducible first|exact HB.out|apply zl1|apply zl2|apply zl3|refine below_set ?_ GE407.out|refine below_set ?_ GE408.out)|exact HB.out)⟩⟩
  ·rw [if_neg c6] at H
   have c6b0:(a0_0 != a1_0)=false:=by simpa using c6
   (try (have c6b1:decide (a0_0=a1_0)=true:=by simpa using c6))
   (try (have c6b2:(a0_0 == a1_0)=true:=by simpa using c6))
   clear c6
   (first|rw [c6b0]|(simp only [i64_w,i32_w];rw [c6b0])|skip)
   by_cases c10:(l0_1.length:Int)=(l1_1.length:Int)
   ·rw [if_pos c10] at H
    have c10b0:((l0_1.length:Int) == (l1_1.length:Int))=true:=beq_iff_eq.mpr c10
    have c10b1:((l0_1.length:Int) != (l1_1.length:Int))=false:=bne_eq_false_iff_eq.mpr c10
    have c10b2:(l0_1.length == l1_1.length)=true:=by first|simpa using c10|(simp at c10 ⊢;omega)
    clear c10
    by_cases c11:(l0_2.length:Int)=(l1_2.length:Int)
    ·rw [if_pos c11] at H
     have c11b0:((l0_2.length:Int) == (l1_2.length:Int))=true:=beq_iff_eq.mpr c11
     have c11b1:((l0_2.length:Int) != (l1_2.length:Int))=false:=bne_eq_false_iff_eq.mpr c11
     have c11b2:(l0_2.length == l1_2.length)=true:=by first|simpa using c11|(simp at c11 ⊢;omega)
     clear c11
     have H':=Aside0.mk H
     clear H
     have hnb12:=NB407_408.out
     have hnc12:=NB408_407.out
     obtain ⟨hcz13_0,hcz13_1,hcz13_2,hcz13_3⟩:=zc4 BK407.out
     obtain ⟨hfz13_0,hfz13_1,hfz13_2,hfz13_3⟩:=zf4 BK407.out
     obtain ⟨hcz14_0,hcz14_1,hcz14_2,hcz14_3⟩:=zc4 BK408.out
     obtain ⟨hfz14_0,hfz14_1,hfz14_2,hfz14_3⟩:=zf4 BK408.out
     go_wp2
     repeat (go_quiet (fail);try go_wp2)
     go_meet
     case rel=>exact ⟨_,(((l0_3.length:Int) != (l1_3.length:Int))),(by first|(with_reducible rfl)|(simp;done)|(simp [*];done)|rfl|(simp only [not_isEmpty_bne])),H',⟨by first|omega|exact Nat.le_refl _⟩,⟨by (with_reducible repeat (first|apply zb1|apply zb2|apply zb3));exact BK407.out⟩,⟨by (with_reducible repeat (first|apply zb1|apply zb2|apply zb3));exact BK408.out⟩,⟨by repeat (first|(with_reducible first|exact HB.out|apply zl1|apply zl2|apply zl3|refine below_set ?_ GE407.out|refine below_set ?_ GE408.out)|exact HB.out)⟩⟩
    ·rw [if_neg c11] at H
     have c11b0:((l0_2.length:Int) == (l1_2.length:Int))=false:=beq_eq_false_iff_ne.mpr c11
     have c11b1:((l0_2.length:Int) != (l1_2.length:Int))=true:=bne_iff_ne.mpr c11
     have c11b2:(l0_2.length == l1_2.length)=false:=by first|simpa using c11|(simp at c11 ⊢;omega)
     have H':=Aside0.mk H
     clear H
     have hnb15:=NB407_408.out
     have hnc15:=NB408_407.out
     obtain ⟨hcz16_0,hcz16_1,hcz16_2,hcz16_3⟩:=zc4 BK407.out
     obtain ⟨hfz16_0,hfz16_1,hfz16_2,hfz16_3⟩:=zf4 BK407.out
     obtain ⟨hcz17_0,hcz17_1,hcz17_2,hcz17_3⟩:=zc4 BK408.out
     obtain ⟨hfz17_0,hfz17_1,hfz17_2,hfz17_3⟩:=zf4 BK408.out
     go_wp2
     repeat (go_quiet (fail);try go_wp2)
     go_meet
     case rel=>exact ⟨_,(true),(by first|(with_reducible rfl)|(simp;done)|(simp [*];done)|rfl|(simp only [not_isEmpty_bne])),H',⟨by first|omega|exact Nat.le_refl _⟩,⟨by (with_reducible repeat (first|apply zb1|apply zb2|apply zb3));exact BK407.out⟩,⟨by (with_reducible repeat (first|apply zb1|apply zb2|apply zb3));exact BK408.out⟩,⟨by repeat (first|(with_reducible first|exact HB.out|apply zl1|apply zl2|apply zl3|refine below_set ?_ GE407.out|refine below_set ?_ GE408.out)|exact HB.out)⟩⟩
   ·rw [if_neg c10] at H
    have c10b0:((l0_1.length:Int) == (l1_1.length:Int))=false:=beq_eq_false_iff_ne.mpr c10
    have c10b1:((l0_1.length:Int) != (l1_1.length:Int))=true:=bne_iff_ne.mpr c10
    have c10b2:(l0_1.length == l1_1.length)=false:=by first|simpa using c10|(simp at c10 ⊢;omega)
    have H':=Aside0.mk H
    clear H
    have hnb18:=NB407_408.out
    have hnc18:=NB408_407.out
    obtain ⟨hcz19_0,hcz19_1,hcz19_2,hcz19_3⟩:=zc4 BK407.out
    obtain ⟨hfz19_0,hfz19_1,hfz19_2,hfz19_3⟩:=zf4 BK407.out
    obtain ⟨hcz20_0,hcz20_1,hcz20_2,hcz20_3⟩:=zc4 BK408.out
    obtain ⟨hfz20_0,hfz20_1,hfz20_2,hfz20_3⟩:=zf4 BK408.out
    go_wp2
    repeat (go_quiet (fail);try go_wp2)
    go_meet
    case rel=>exact ⟨_,(true),(by first|(with_reducible rfl)|(simp;done)|(simp [*];done)|rfl|(simp only [not_isEmpty_bne])),H',⟨by first|omega|exact Nat.le_refl _⟩,⟨by (with_reducible repeat (first|apply zb1|apply zb2|apply zb3));exact BK407.out⟩,⟨by (with_reducible repeat (first|apply zb1|apply zb2|apply zb3));exact BK408.out⟩,⟨by repeat (first|(with_reducible first|exact HB.out|apply zl1|apply zl2|apply zl3|refine below_set ?_ GE407.out|refine below_set ?_ GE408.out)|exact HB.out)⟩⟩
 case rest =>
  clear HC3
  try clear hcz13_0 hcz13_1 hcz13_2 hcz13_3 hcz14_0 hcz14_1 hcz14_2 hcz14_3 hcz16_0 hcz16_1 hcz16_2 hcz16_3
  try clear c1
  try clear p2
  try clear c6
  try clear c6b0
  try clear c6b1
  try clear c6b2
  try clear c7
  try clear c10
  try clear c10b0
  try clear c10b1
  try clear c10b2
  try clear c11
  try clear c11b0
  try clear c11b1
  try clear c11b2
  try clear c12
  try clear c15
  try clear c18
  try clear hfz13_0 hfz13_1 hfz13_2 hfz13_3 hfz14_0 hfz14_1 hfz14_2 hfz14_3 hfz16_0 hfz16_1
  try clear hcz17_0 hcz17_1 hcz17_2 hcz17_3 hcz19_0 hcz19_1 hcz19_2 hcz19_3 hcz20_0 hcz20_1 hcz20_2 hcz20_3 hcz8_0 hcz8_1 hcz8_2 hcz8_3 hcz9_0 hcz9_1 hcz9_2 hcz9_3
  try clear hfz16_2 hfz16_3 hfz17_0 hfz17_1 hfz17_2 hfz17_3 hfz19_0 hfz19_1 hfz19_2 hfz19_3 hfz20_0 hfz20_1 hfz20_2 hfz20_3 hfz8_0 hfz8_1 hfz8_2 hfz8_3 hfz9_0 hfz9_1 hfz9_2 hfz9_3
  obtain ⟨kq,x39_2,rfl,HA,HJ2,BK407,BK408,HB⟩:=hcut
  cases kq with
  | zero=>exact absurd HA.out (by simp [factotumref09_Same.j0])
  | succ kj2 =>
   have H:=HA.out
   clear HA
   simp only [factotumref09_Same.j0] at H
   by_cases c21:x39_2=true
   ·subst c21
    have H1:(some false)=some r:=by rw [if_pos rfl] at H;exact H
    clear H
    have H:=H1
    clear H1
    obtain rfl:=Option.some.inj H
    go_wp2
    repeat (go_quiet (fail);try go_wp2)
    go_ret
    exact ⟨by first|(with_reducible rfl)|(simp only [isEmpty_bne,Bool.not_not] <;> rfl)|rfl|(simp [*,errW_none,errW_some] <;> rfl),by repeat (first|(with_reducible first|exact HB.out|apply zl1|apply zl2|apply zl3|refine below_set ?_ GE407.out|refine below_set ?_ GE408.out)|exact HB.out)⟩
   ·replace c21:=Bool.eq_false_iff.mpr c21
    subst c21
    have H1:(factotumref09_Same.l0 kj2 0 a0_0 l0_1 l0_2 l0_3 a1_0 l1_1 l1_2 l1_3)=some r:=by rw [if_neg (show ¬ (false=true) by decide)] at H;exact H
    clear H
    have H:=H1
    clear H1
    have H':=Aside0.mk H
    clear H
    go_wp2
    repeat (go_quiet (fail);try go_wp2)
    go_loopg [5] kj2 (fun kq v5 w'=>∃ (x5_2:Int),v5=.int .i64 x5_2∧Aside0 (factotumref09_Same.l0 kq x5_2 a0_0 l0_1 l0_2 l0_3 a1_0 l1_1 l1_2 l1_3=some r)∧Aside0 (kq≤kj2)∧Aside0 (w'.heap[gb407]?=some (.cells #[.bool a0_0,(.slice A0_1 l0_1.length c0_1),(.slice A0_2 l0_2.length c0_2),(.slice A0_3 l0_3.length c0_3)] 26 (0,0)))∧Aside0 (w'.heap[gb408]?=some (.cells #[.bool a1_0,(.slice A1_1 l1_1.length c1_1),(.slice A1_2 l1_2.length c1_2),(.slice A1_3 l1_3.length c1_3)] 26 (0,0)))∧Aside0 (Below w.heap.size w w'))
    case atStart=>exact ⟨(0),(by first|(with_reducible rfl)|(simp;done)|(simp [*];done)|rfl|(simp only [not_isEmpty_bne])),H',⟨Nat.le_refl _⟩,⟨by (with_reducible repeat (first|apply zb1|apply zb2|apply zb3));exact BK407.out⟩,⟨by (with_reducible repeat (first|apply zb1|apply zb2|apply zb3));exact BK408.out⟩,⟨by repeat (first|(with_reducible first|exact HB.out|apply zl1|apply zl2|apply zl3|refine below_set ?_ GE407.out|refine below_set ?_ GE408.out)|exact HB.out)⟩⟩
    case round =>
     clear H'
     try clear hcz13_0 hcz13_1 hcz13_2 hcz13_3 hcz14_0 hcz14_1 hcz14_2 hcz14_3 hcz16_0 hcz16_1
     try clear c1
     try clear c2
     try clear p2
     try clear c6
     try clear c6b0
     try clear c6b1
     try clear c6b2
     try clear c7
     try clear c10
     try clear c10b0
     try clear c10b1
     try clear c10b2
     try clear c11
     try clear c11b0
     try clear c11b1
     try clear c11b2
     try clear c12
     try clear c15
     try clear c18
     try clear c21
     try clear hfz13_0 hfz13_1 hfz13_2 hfz13_3 hfz14_0 hfz14_1 hfz14_2 hfz14_3
     try clear hcz16_2 hcz16_3 hcz17_0 hcz17_1 hcz17_2 hcz17_3 hcz19_0 hcz19_1 hcz19_2 hcz19_3 hcz20_0 hcz20_1 hcz20_2 hcz20_3 hcz8_0 hcz8_1 hcz8_2 hcz8_3 hcz9_0 hcz9_1 hcz9_2 hcz9_3
     try clear hfz16_0 hfz16_1 hfz16_2 hfz16_3 hfz17_0 hfz17_1 hfz17_2 hfz17_3 hfz19_0 hfz19_1 hfz19_2 hfz19_3 hfz20_0 hfz20_1 hfz20_2 hfz20_3 hfz8_0 hfz8_1 hfz8_2 hfz8_3 hfz9_0 hfz9_1 hfz9_2 hfz9_3
     try clear p2
     obtain ⟨x5_2,rfl,HA,HK2,BK407,BK408,HB⟩:=hrel
     cases gk with
     | zero=>exact absurd HA.out (by simp [factotumref09_Same.l0])
     | succ k2 =>
      have H:=HA.out
      clear HA
      simp only [factotumref09_Same.l0] at H
      by_cases c22:x5_2 < (l0_1.length:Int)
      ·rw [if_pos c22] at H
       have c22b0:decide (x5_2 < (l0_1.length:Int))=true:=decide_eq_true c22
       clear c22
       by_cases c23:0≤x5_2
       ·rw [if_pos c23] at H
        have c23b0:decide (0≤x5_2)=true:=decide_eq_true c23
        clear c23
        by_cases c24:x5_2 < (l1_1.length:Int)
        ·rw [if_pos c24] at H
         have c24b0:decide (x5_2 < (l1_1.length:Int))=true:=decide_eq_true c24
         clear c24
         by_cases c25:(!((((rd_T43 l0_1 x5_2).f0).toList) == (((rd_T43 l1_1 x5_2).f0).toList)) || (!((((rd_T43 l0_1 x5_2).f1).toList) == (((rd_T43 l1_1 x5_2).f1).toList))))=true
         ·rw [if_pos c25] at H
          have c25b0:(!((((rd_T43 l0_1 x5_2).f0).toList) == (((rd_T43 l1_1 x5_2).f0).toList)) || (!((((rd_T43 l0_1 x5_2).f1).toList) == (((rd_T43 l1_1 x5_2).f1).toList))))=true:=c25
          clear c25
          obtain rfl:=Option.some.inj H
          have hnb26:=NB407_408.out
          have hnc26:=NB408_407.out
          obtain ⟨hcz27_0,hcz27_1,hcz27_2,hcz27_3⟩:=zc4 BK407.out
          obtain ⟨hfz27_0,hfz27_1,hfz27_2,hfz27_3⟩:=zf4 BK407.out
          have p409:0≤(x5_2:Int):=of_decide_eq_true (by first|(with_reducible assumption)|assumption)
          have q409:x5_2 < (l0_1.length:Int):=of_decide_eq_true (by first|(with_reducible assumption)|assumption)
          obtain ⟨ad409,e409,hx409_0,hx409_1⟩:=at_T43 HR0_1.out x5_2 p409 q409
          cases e409
          replace hx409_0:=(HB.out.cell (World.block_lt_of_cell? w _ hx409_0)).trans hx409_0
          replace hx409_1:=(HB.out.cell (World.block_lt_of_cell? w _ hx409_1)).trans hx409_1
          replace p409:=eq_true p409
          replace q409:=eq_true q409
          obtain ⟨hcz28_0,hcz28_1,hcz28_2,hcz28_3⟩:=zc4 BK408.out
          obtain ⟨hfz28_0,hfz28_1,hfz28_2,hfz28_3⟩:=zf4 BK408.out
          have p410:0≤(x5_2:Int):=of_decide_eq_true (by first|(with_reducible assumption)|assumption)
          have q410:x5_2 < (l1_1.length:Int):=of_decide_eq_true (by first|(with_reducible assumption)|assumption)
          obtain ⟨ad410,e410,hx410_0,hx410_1⟩:=at_T43 HR1_1.out x5_2 p410 q410
          cases e410
          replace hx410_0:=(HB.out.cell (World.block_lt_of_cell? w _ hx410_0)).trans hx410_0
          replace hx410_1:=(HB.out.cell (World.block_lt_of_cell? w _ hx410_1)).trans hx410_1
          replace p410:=eq_true p410
          replace q410:=eq_true q410
          go_wp2
          repeat (go_quiet (fail);try go_wp2)
          go_ret
          exact ⟨by first|(with_reducible rfl)|(simp only [isEmpty_bne,Bool.not_not] <;> rfl)|rfl|(simp [*,errW_none,errW_some] <;> rfl),by repeat (first|(with_reducible first|exact HB.out|apply zl1|apply zl2|apply zl3|refine below_set ?_ GE407.out|refine below_set ?_ GE408.out)|exact HB.out)⟩
         ·rw [if_neg c25] at H
          have c25b0:(!((((rd_T43 l0_1 x5_2).f0).toList) == (((rd_T43 l1_1 x5_2).f0).toList)) || (!((((rd_T43 l0_1 x5_2).f1).toList) == (((rd_T43 l1_1 x5_2).f1).toList))))=false:=by simpa using c25
          clear c25
          have H':=Aside0.mk H
          clear H
          have hnb29:=NB407_408.out
          have hnc29:=NB408_407.out
          obtain ⟨hcz30_0,hcz30_1,hcz30_2,hcz30_3⟩:=zc4 BK407.out
          obtain ⟨hfz30_0,hfz30_1,hfz30_2,hfz30_3⟩:=zf4 BK407.out
          have p409:0≤(x5_2:Int):=of_decide_eq_true (by first|(with_reducible assumption)|assumption)
          have q409:x5_2 < (l0_1.length:Int):=of_decide_eq_true (by first|(with_reducible assumption)|assumption)
          obtain ⟨ad409,e409,hx409_0,hx409_1⟩:=at_T43 HR0_1.out x5_2 p409 q409
          cases e409
          replace hx409_0:=(HB.out.cell (World.block_lt_of_cell? w _ hx409_0)).trans hx409_0
          replace hx409_1:=(HB.out.cell (World.block_lt_of_cell? w _ hx409_1)).trans hx409_1
          replace p409:=eq_true p409
          replace q409:=eq_true q409
          obtain ⟨hcz31_0,hcz31_1,hcz31_2,hcz31_3⟩:=zc4 BK408.out
          obtain ⟨hfz31_0,hfz31_1,hfz31_2,hfz31_3⟩:=zf4 BK408.out
          have p410:0≤(x5_2:Int):=of_decide_eq_true (by first|(with_reducible assumption)|assumption)
          have q410:x5_2 < (l1_1.length:Int):=of_decide_eq_true (by first|(with_reducible assumption)|assumption)
          obtain ⟨ad410,e410,hx410_0,hx410_1⟩:=at_T43 HR1_1.out x5_2 p410 q410
          cases e410
          replace hx410_0:=(HB.out.cell (World.block_lt_of_cell? w _ hx410_0)).trans hx410_0
          replace hx410_1:=(HB.out.cell (World.block_lt_of_cell? w _ hx410_1)).trans hx410_1
          replace p410:=eq_true p410
          replace q410:=eq_true q410
          go_wp2
          repeat (go_quiet (fail);try go_wp2)
          go_roundg k2
          case measure=>have:=HJ2.out;have:=HK2.out;omega
          case rel=>exact ⟨(wrap64 (x5_2 + 1)),(by first|(with_reducible rfl)|(simp;done)|(simp [*];done)|rfl|(simp only [not_isEmpty_bne])),H',⟨by have:=HJ2.out;have:=HK2.out;omega⟩,⟨by (with_reducible repeat (first|apply zb1|apply zb2|apply zb3));exact BK407.out⟩,⟨by (with_reducible repeat (first|apply zb1|apply zb2|apply zb3));exact BK408.out⟩,⟨by repeat (first|(with_reducible first|exact HB.out|apply zl1|apply zl2|apply zl3|refine below_set ?_ GE407.out|refine below_set ?_ GE408.out)|exact HB.out)⟩⟩
        ·rw [if_neg c24] at H
         exact absurd H (by simp)
       ·rw [if_neg c23] at H
        exact absurd H (by simp)
      ·rw [if_neg c22] at H
       have c22b0:decide (x5_2 < (l0_1.length:Int))=false:=decide_eq_false c22
       clear c22
       have H':=Aside0.mk H
       clear H
       have hnb32:=NB407_408.out
       have hnc32:=NB408_407.out
       obtain ⟨hcz33_0,hcz33_1,hcz33_2,hcz33_3⟩:=zc4 BK407.out
       obtain ⟨hfz33_0,hfz33_1,hfz33_2,hfz33_3⟩:=zf4 BK407.out
       go_wp2
       repeat (go_quiet (fail);try go_wp2)
       go_loopg [6] k2 (fun kq v6 w'=>∃ (x6_3:Int),v6=.int .i64 x6_3∧Aside0 (factotumref09_Same.l1 kq x6_3 a0_0 l0_1 l0_2 l0_3 a1_0 l1_1 l1_2 l1_3=some r)∧Aside0 (kq≤k2)∧Aside0 (w'.heap[gb407]?=some (.cells #[.bool a0_0,(.slice A0_1 l0_1.length c0_1),(.slice A0_2 l0_2.length c0_2),(.slice A0_3 l0_3.length c0_3)] 26 (0,0)))∧Aside0 (w'.heap[gb408]?=some (.cells #[.bool a1_0,(.slice A1_1 l1_1.length c1_1),(.slice A1_2 l1_2.length c1_2),(.slice A1_3 l1_3.length c1_3)] 26 (0,0)))∧Aside0 (Below w.heap.size w w'))
       case atStart=>exact ⟨(0),(by first|(with_reducible rfl)|(simp;done)|(simp [*];done)|rfl|(simp only [not_isEmpty_bne])),H',⟨Nat.le_refl _⟩,⟨by (with_reducible repeat (first|apply zb1|apply zb2|apply zb3));exact BK407.out⟩,⟨by (with_reducible repeat (first|apply zb1|apply zb2|apply zb3));exact BK408.out⟩,⟨by repeat (first|(with_reducible first|exact HB.out|apply zl1|apply zl2|apply zl3|refine below_set ?_ GE407.out|refine below_set ?_ GE408.out)|exact HB.out)⟩⟩
       case round =>
        clear H'
        try clear c1
        try clear c2
        try clear p2
        try clear c3
        try clear p4
        try clear q4
        try clear hx4
        try clear c6
        try clear c6b0
        try clear c6b1
        try clear c6b2
        try clear p6
        try clear c7
        try clear c10
        try clear c10b0
        try clear c10b1
        try clear c10b2
        try clear c11
        try clear c11b0
        try clear c11b1
        try clear c11b2
        try clear c12
        try clear c15
        try clear c18
        try clear c21
        try clear c22
        try clear c22b0
        try clear c23
        try clear c23b0
        try clear c24
        try clear hcz13_0 hcz13_1 hcz13_2 hcz13_3 hcz14_0 hcz14_1 hcz14_2 hcz14_3 hcz16_0 hcz16_1 hcz16_2 hcz16_3 hcz17_0 hcz17_1 hcz17_2 hcz17_3 hcz19_0 hcz19_1 hcz19_2 hcz19_3 hcz20_0 hcz20_1 hcz20_2 hcz20_3
        try clear c24b0
        try clear c25
        try clear c25b0
        try clear c26
        try clear c29
        try clear c32
        try clear hfz13_0 hfz13_1
        try clear hcz27_0 hcz27_1 hcz27_2 hcz27_3 hcz28_0 hcz28_1 hcz28_2 hcz28_3 hcz30_0 hcz30_1 hcz30_2 hcz30_3 hcz31_0 hcz31_1 hcz31_2 hcz31_3 hcz33_0 hcz33_1 hcz33_2 hcz33_3 hcz8_0 hcz8_1 hcz8_2 hcz8_3 hcz9_0 hcz9_1 hcz9_2 hcz9_3
        try clear hfz13_2 hfz13_3 hfz14_0 hfz14_1 hfz14_2 hfz14_3 hfz16_0 hfz16_1 hfz16_2 hfz16_3 hfz17_0 hfz17_1 hfz17_2 hfz17_3 hfz19_0 hfz19_1 hfz19_2 hfz19_3 hfz20_0 hfz20_1 hfz20_2 hfz20_3 hfz27_0 hfz27_1 hfz27_2 hfz27_3 hfz28_0 hfz28_1 hfz28_2 hfz28_3
        try clear hfz30_0 hfz30_1 hfz30_2 hfz30_3 hfz31_0 hfz31_1 hfz31_2 hfz31_3 hfz33_0 hfz33_1 hfz33_2 hfz33_3 hfz8_0 hfz8_1 hfz8_2 hfz8_3 hfz9_0 hfz9_1 hfz9_2 hfz9_3
        try clear hx409_0
        try clear hx409_1
        try clear hx410_0
        try clear hx410_1
        try clear p2
        try clear p409
        try clear p410
        try clear q409
        try clear q410
        obtain ⟨x6_3,rfl,HA,HK3,BK407,BK408,HB⟩:=hrel
        cases gk with
        | zero=>exact absurd HA.out (by simp [factotumref09_Same.l1])
        | succ k3 =>
         have H:=HA.out
         clear HA
         simp only [factotumref09_Same.l1] at H
         by_cases c34:x6_3 < (l0_2.length:Int)
         ·rw [if_pos c34] at H
          have c34b0:decide (x6_3 < (l0_2.length:Int))=true:=decide_eq_true c34
          clear c34
          by_cases c35:0≤x6_3
          ·rw [if_pos c35] at H
           have c35b0:decide (0≤x6_3)=true:=decide_eq_true c35
           clear c35
           by_cases c36:x6_3 < (l1_2.length:Int)
           ·rw [if_pos c36] at H
            have c36b0:decide (x6_3 < (l1_2.length:Int))=true:=decide_eq_true c36
            clear c36
            by_cases c37:(rdOf ByteArray.empty l0_2 x6_3).toList=(rdOf ByteArray.empty l1_2 x6_3).toList
            ·rw [if_pos c37] at H
             have c37b0:((rdOf ByteArray.empty l0_2 x6_3).toList == (rdOf ByteArray.empty l1_2 x6_3).toList)=true:=beq_iff_eq.mpr c37
             have c37b1:((rdOf ByteArray.empty l0_2 x6_3).toList != (rdOf ByteArray.empty l1_2 x6_3).toList)=false:=bne_eq_false_iff_eq.mpr c37
             clear c37
             have H':=Aside0.mk H
             clear H
             have hnb38:=NB407_408.out
             have hnc38:=NB408_407.out
             obtain ⟨hcz39_0,hcz39_1,hcz39_2,hcz39_3⟩:=zc4 BK407.out
             obtain ⟨hfz39_0,hfz39_1,hfz39_2,hfz39_3⟩:=zf4 BK407.out
             have p411:0≤(x6_3:Int):=of_decide_eq_true (by first|(with_reducible assumption)|assumption)
             have q411:x6_3 < (l0_2.length:Int):=of_decide_eq_true (by first|(with_reducible assumption)|assumption)
             obtain ⟨ad411,e411,hx411_0⟩:=Kd.at_string HR0_2.out x6_3 p411 q411
             cases e411
             replace hx411_0:=(HB.out.cell (World.block_lt_of_cell? w _ hx411_0)).trans hx411_0
             replace p411:=eq_true p411
             replace q411:=eq_true q411
             obtain ⟨hcz40_0,hcz40_1,hcz40_2,hcz40_3⟩:=zc4 BK408.out
             obtain ⟨hfz40_0,hfz40_1,hfz40_2,hfz40_3⟩:=zf4 BK408.out
             have p412:0≤(x6_3:Int):=of_decide_eq_true (by first|(with_reducible assumption)|assumption)
             have q412:x6_3 < (l1_2.length:Int):=of_decide_eq_true (by first|(with_reducible assumption)|assumption)
             obtain ⟨ad412,e412,hx412_0⟩:=Kd.at_string HR1_2.out x6_3 p412 q412
             cases e412
             replace hx412_0:=(HB.out.cell (World.block_lt_of_cell? w _ hx412_0)).trans hx412_0
             replace p412:=eq_true p412
             replace q412:=eq_true q412
             go_wp2
             repeat (go_quiet (fail);try go_wp2)
             go_roundg k3
             case measure=>have:=HJ2.out;have:=HK2.out;have:=HK3.out;omega
             case rel=>exact ⟨(wrap64 (x6_3 + 1)),(by first|(with_reducible rfl)|(simp;done)|(simp [*];done)|rfl|(simp only [not_isEmpty_bne])),H',⟨by have:=HJ2.out;have:=HK2.out;have:=HK3.out;omega⟩,⟨by (with_reducible repeat (first|apply zb1|apply zb2|apply zb3));exact BK407.out⟩,⟨by (with_reducible repeat (first|apply zb1|apply zb2|apply zb3));exact BK408.out⟩,⟨by repeat (first|(with_reducible first|exact HB.out|apply zl1|apply zl2|apply zl3|refine below_set ?_ GE407.out|refine below_set ?_ GE408.out)|exact HB.out)⟩⟩
            ·rw [if_neg c37] at H
             have c37b0:((rdOf ByteArray.empty l0_2 x6_3).toList == (rdOf ByteArray.empty l1_2 x6_3).toList)=false:=beq_eq_false_iff_ne.mpr c37
             have c37b1:((rdOf ByteArray.empty l0_2 x6_3).toList != (rdOf ByteArray.empty l1_2 x6_3).toList)=true:=bne_iff_ne.mpr c37
             obtain rfl:=Option.some.inj H
             have hnb41:=NB407_408.out
             have hnc41:=NB408_407.out
             obtain ⟨hcz42_0,hcz42_1,hcz42_2,hcz42_3⟩:=zc4 BK407.out
             obtain ⟨hfz42_0,hfz42_1,hfz42_2,hfz42_3⟩:=zf4 BK407.out
             have p411:0≤(x6_3:Int):=of_decide_eq_true (by first|(with_reducible assumption)|assumption)
             have q411:x6_3 < (l0_2.length:Int):=of_decide_eq_true (by first|(with_reducible assumption)|assumption)
             obtain ⟨ad411,e411,hx411_0⟩:=Kd.at_string HR0_2.out x6_3 p411 q411
             cases e411
             replace hx411_0:=(HB.out.cell (World.block_lt_of_cell? w _ hx411_0)).trans hx411_0
             replace p411:=eq_true p411
             replace q411:=eq_true q411
             obtain ⟨hcz43_0,hcz43_1,hcz43_2,hcz43_3⟩:=zc4 BK408.out
             obtain ⟨hfz43_0,hfz43_1,hfz43_2,hfz43_3⟩:=zf4 BK408.out
             have p412:0≤(x6_3:Int):=of_decide_eq_true (by first|(with_reducible assumption)|assumption)
             have q412:x6_3 < (l1_2.length:Int):=of_decide_eq_true (by first|(with_reducible assumption)|assumption)
             obtain ⟨ad412,e412,hx412_0⟩:=Kd.at_string HR1_2.out x6_3 p412 q412
             cases e412
             replace hx412_0:=(HB.out.cell (World.block_lt_of_cell? w _ hx412_0)).trans hx412_0
             replace p412:=eq_true p412
             replace q412:=eq_true q412
             go_wp2
             repeat (go_quiet (fail);try go_wp2)
             go_ret
             exact ⟨by first|(with_reducible rfl)|(simp only [isEmpty_bne,Bool.not_not] <;> rfl)|rfl|(simp [*,errW_none,errW_some] <;> rfl),by repeat (first|(with_reducible first|exact HB.out|apply zl1|apply zl2|apply zl3|refine below_set ?_ GE407.out|refine below_set ?_ GE408.out)|exact HB.out)⟩
           ·rw [if_neg c36] at H
            exact absurd H (by simp)
          ·rw [if_neg c35] at H
           exact absurd H (by simp)
         ·rw [if_neg c34] at H
          have c34b0:decide (x6_3 < (l0_2.length:Int))=false:=decide_eq_false c34
          clear c34
          have H':=Aside0.mk H
          clear H
          have hnb44:=NB407_408.out
          have hnc44:=NB408_407.out
          obtain ⟨hcz45_0,hcz45_1,hcz45_2,hcz45_3⟩:=zc4 BK407.out
          obtain ⟨hfz45_0,hfz45_1,hfz45_2,hfz45_3⟩:=zf4 BK407.out
          go_wp2
          repeat (go_quiet (fail);try go_wp2)
          go_loopg [7] k3 (fun kq v7 w'=>∃ (x7_4:Int),v7=.int .i64 x7_4∧Aside0 (factotumref09_Same.l2 kq x7_4 a0_0 l0_1 l0_2 l0_3 a1_0 l1_1 l1_2 l1_3=some r)∧Aside0 (kq≤k3)∧Aside0 (w'.heap[gb407]?=some (.cells #[.bool a0_0,(.slice A0_1 l0_1.length c0_1),(.slice A0_2 l0_2.length c0_2),(.slice A0_3 l0_3.length c0_3)] 26 (0,0)))∧Aside0 (w'.heap[gb408]?=some (.cells #[.bool a1_0,(.slice A1_1 l1_1.length c1_1),(.slice A1_2 l1_2.length c1_2),(.slice A1_3 l1_3.length c1_3)] 26 (0,0)))∧Aside0 (Below w.heap.size w w'))
          case atStart=>exact ⟨(0),(by first|(with_reducible rfl)|(simp;done)|(simp [*];done)|rfl|(simp only [not_isEmpty_bne])),H',⟨Nat.le_refl _⟩,⟨by (with_reducible repeat (first|apply zb1|apply zb2|apply zb3));exact BK407.out⟩,⟨by (with_reducible repeat (first|apply zb1|apply zb2|apply zb3));exact BK408.out⟩,⟨by repeat (first|(with_reducible first|exact HB.out|apply zl1|apply zl2|apply zl3|refine below_set ?_ GE407.out|refine below_set ?_ GE408.out)|exact HB.out)⟩⟩
          case round =>
           clear H'
           try clear c1
           try clear c2
           try clear p2
           try clear c3
           try clear c4
           try clear p4
           try clear q4
           try clear hx4
           try clear c6
           try clear c6b0
           try clear c6b1
           try clear c6b2
           try clear p6
           try clear c7
           try clear c10
           try clear c10b0
           try clear c10b1
           try clear c10b2
           try clear c11
           try clear c11b0
           try clear c11b1
           try clear c11b2
           try clear c12
           try clear c15
           try clear c18
           try clear c21
           try clear c22
           try clear c22b0
           try clear c23
           try clear c23b0
           try clear hcz13_0 hcz13_1 hcz13_2 hcz13_3 hcz14_0
           try clear c24
           try clear c24b0
           try clear c25
           try clear c25b0
           try clear c26
           try clear c29
           try clear c32
           try clear c34
           try clear c34b0
           try clear c35
           try clear c35b0
           try clear c36
           try clear c36b0
           try clear c37
           try clear c37b0
           try clear c37b1
           try clear c38
           try clear p40
           try clear q40
           try clear hx40
           try clear c41
           try clear p41
           try clear q41
           try clear hx41
           try clear c44
           try clear hcz14_1 hcz14_2 hcz14_3 hcz16_0 hcz16_1 hcz16_2 hcz16_3 hcz17_0 hcz17_1 hcz17_2 hcz17_3 hcz19_0 hcz19_1 hcz19_2 hcz19_3 hcz20_0 hcz20_1 hcz20_2 hcz20_3 hcz27_0 hcz27_1 hcz27_2 hcz27_3 hcz28_0 hcz28_1 hcz28_2 hcz28_3 hcz30_0 hcz30_1 hcz30_2
           try clear hcz30_3 hcz31_0 hcz31_1 hcz31_2 hcz31_3 hcz33_0 hcz33_1 hcz33_2 hcz33_3 hcz39_0 hcz39_1 hcz39_2 hcz39_3 hcz40_0 hcz40_1 hcz40_2 hcz40_3 hcz42_0 hcz42_1 hcz42_2 hcz42_3 hcz43_0 hcz43_1 hcz43_2 hcz43_3 hcz45_0 hcz45_1 hcz45_2 hcz45_3 hcz8_0
           try clear hfz13_0 hfz13_1 hfz13_2 hfz13_3 hfz14_0 hfz14_1 hfz14_2 hfz14_3 hfz16_0 hfz16_1 hfz16_2 hfz16_3 hfz17_0 hfz17_1 hfz17_2 hfz17_3 hfz19_0 hfz19_1 hfz19_2 hfz19_3 hfz20_0 hfz20_1 hfz20_2
           try clear hcz8_1 hcz8_2 hcz8_3 hcz9_0 hcz9_1 hcz9_2 hcz9_3
           try clear hfz20_3 hfz27_0 hfz27_1 hfz27_2 hfz27_3 hfz28_0 hfz28_1 hfz28_2 hfz28_3 hfz30_0 hfz30_1 hfz30_2 hfz30_3 hfz31_0 hfz31_1 hfz31_2 hfz31_3 hfz33_0 hfz33_1 hfz33_2 hfz33_3 hfz39_0 hfz39_1 hfz39_2 hfz39_3 hfz40_0 hfz40_1 hfz40_2 hfz40_3 hfz42_0
           try clear hfz42_1 hfz42_2 hfz42_3 hfz43_0 hfz43_1 hfz43_2 hfz43_3 hfz45_0 hfz45_1 hfz45_2 hfz45_3 hfz8_0 hfz8_1 hfz8_2 hfz8_3 hfz9_0 hfz9_1 hfz9_2 hfz9_3
           try clear hx409_0
           try clear hx409_1
           try clear hx410_0
           try clear hx410_1
           try clear hx411_0
           try clear hx412_0
           try clear p2
           try clear p4
           try clear p409
           try clear p410
           try clear p411
           try clear p412
           try clear p6
           try clear q4
           try clear q409
           try clear q410
           try clear q411
           try clear q412
           obtain ⟨x7_4,rfl,HA,HK4,BK407,BK408,HB⟩:=hrel
           cases gk with
           | zero=>exact absurd HA.out (by simp [factotumref09_Same.l2])
           | succ k4 =>
            have H:=HA.out
            clear HA
            simp only [factotumref09_Same.l2] at H
            by_cases c46:x7_4 < (l0_3.length:Int)
            ·rw [if_pos c46] at H
             have c46b0:decide (x7_4 < (l0_3.length:Int))=true:=decide_eq_true c46
             clear c46
             by_cases c47:0≤x7_4
             ·rw [if_pos c47] at H
              have c47b0:decide (0≤x7_4)=true:=decide_eq_true c47
              clear c47
              by_cases c48:x7_4 < (l1_3.length:Int)
              ·rw [if_pos c48] at H
               have c48b0:decide (x7_4 < (l1_3.length:Int))=true:=decide_eq_true c48
               clear c48
               by_cases c49:(rd l0_3 x7_4)=(rd l1_3 x7_4)
               ·rw [if_pos c49] at H
                have c49b0:((rd l0_3 x7_4) == (rd l1_3 x7_4))=true:=beq_iff_eq.mpr c49
                have c49b1:((rd l0_3 x7_4) != (rd l1_3 x7_4))=false:=bne_eq_false_iff_eq.mpr c49
                clear c49
                have H':=Aside0.mk H
                clear H
                have hnb50:=NB407_408.out
                have hnc50:=NB408_407.out
                obtain ⟨hcz51_0,hcz51_1,hcz51_2,hcz51_3⟩:=zc4 BK407.out
                obtain ⟨hfz51_0,hfz51_1,hfz51_2,hfz51_3⟩:=zf4 BK407.out
                have p413:0≤(x7_4:Int):=of_decide_eq_true (by first|(with_reducible assumption)|assumption)
                have q413:x7_4 < (l0_3.length:Int):=of_decide_eq_true (by first|(with_reducible assumption)|assumption)
                obtain ⟨ad413,e413,hx413_0⟩:=Kd.at_int HR0_3.out x7_4 p413 q413
                cases e413
                replace hx413_0:=(HB.out.cell (World.block_lt_of_cell? w _ hx413_0)).trans hx413_0
                replace p413:=eq_true p413
                replace q413:=eq_true q413
                obtain ⟨hcz52_0,hcz52_1,hcz52_2,hcz52_3⟩:=zc4 BK408.out
                obtain ⟨hfz52_0,hfz52_1,hfz52_2,hfz52_3⟩:=zf4 BK408.out
                have p414:0≤(x7_4:Int):=of_decide_eq_true (by first|(with_reducible assumption)|assumption)
                have q414:x7_4 < (l1_3.length:Int):=of_decide_eq_true (by first|(with_reducible assumption)|assumption)
                obtain ⟨ad414,e414,hx414_0⟩:=Kd.at_int HR1_3.out x7_4 p414 q414
                cases e414
                replace hx414_0:=(HB.out.cell (World.block_lt_of_cell? w _ hx414_0)).trans hx414_0
                replace p414:=eq_true p414
                replace q414:=eq_true q414
                go_wp2
                repeat (go_quiet (fail);try go_wp2)
                go_roundg k4
                case measure=>have:=HJ2.out;have:=HK2.out;have:=HK3.out;have:=HK4.out;omega
                case rel=>exact ⟨(wrap64 (x7_4 + 1)),(by first|(with_reducible rfl)|(simp;done)|(simp [*];done)|rfl|(simp only [not_isEmpty_bne])),H',⟨by have:=HJ2.out;have:=HK2.out;have:=HK3.out;have:=HK4.out;omega⟩,⟨by (with_reducible repeat (first|apply zb1|apply zb2|apply zb3));exact BK407.out⟩,⟨by (with_reducible repeat (first|apply zb1|apply zb2|apply zb3));exact BK408.out⟩,⟨by repeat (first|(with_reducible first|exact HB.out|apply zl1|apply zl2|apply zl3|refine below_set ?_ GE407.out|refine below_set ?_ GE408.out)|exact HB.out)⟩⟩
               ·rw [if_neg c49] at H
                have c49b0:((rd l0_3 x7_4) == (rd l1_3 x7_4))=false:=beq_eq_false_iff_ne.mpr c49
                have c49b1:((rd l0_3 x7_4) != (rd l1_3 x7_4))=true:=bne_iff_ne.mpr c49
                obtain rfl:=Option.some.inj H
                have hnb53:=NB407_408.out
                have hnc53:=NB408_407.out
                obtain ⟨hcz54_0,hcz54_1,hcz54_2,hcz54_3⟩:=zc4 BK407.out
                obtain ⟨hfz54_0,hfz54_1,hfz54_2,hfz54_3⟩:=zf4 BK407.out
                have p413:0≤(x7_4:Int):=of_decide_eq_true (by first|(with_reducible assumption)|assumption)
                have q413:x7_4 < (l0_3.length:Int):=of_decide_eq_true (by first|(with_reducible assumption)|assumption)
                obtain ⟨ad413,e413,hx413_0⟩:=Kd.at_int HR0_3.out x7_4 p413 q413
                cases e413
                replace hx413_0:=(HB.out.cell (World.block_lt_of_cell? w _ hx413_0)).trans hx413_0
                replace p413:=eq_true p413
                replace q413:=eq_true q413
                obtain ⟨hcz55_0,hcz55_1,hcz55_2,hcz55_3⟩:=zc4 BK408.out
                obtain ⟨hfz55_0,hfz55_1,hfz55_2,hfz55_3⟩:=zf4 BK408.out
                have p414:0≤(x7_4:Int):=of_decide_eq_true (by first|(with_reducible assumption)|assumption)
                have q414:x7_4 < (l1_3.length:Int):=of_decide_eq_true (by first|(with_reducible assumption)|assumption)
                obtain ⟨ad414,e414,hx414_0⟩:=Kd.at_int HR1_3.out x7_4 p414 q414
                cases e414
                replace hx414_0:=(HB.out.cell (World.block_lt_of_cell? w _ hx414_0)).trans hx414_0
                replace p414:=eq_true p414
                replace q414:=eq_true q414
                go_wp2
                repeat (go_quiet (fail);try go_wp2)
                go_ret
                exact ⟨by first|(with_reducible rfl)|(simp only [isEmpty_bne,Bool.not_not] <;> rfl)|rfl|(simp [*,errW_none,errW_some] <;> rfl),by repeat (first|(with_reducible first|exact HB.out|apply zl1|apply zl2|apply zl3|refine below_set ?_ GE407.out|refine below_set ?_ GE408.out)|exact HB.out)⟩
              ·rw [if_neg c48] at H
               exact absurd H (by simp)
             ·rw [if_neg c47] at H
              exact absurd H (by simp)
            ·rw [if_neg c46] at H
             have c46b0:decide (x7_4 < (l0_3.length:Int))=false:=decide_eq_false c46
             clear c46
             obtain rfl:=Option.some.inj H
             have hnb56:=NB407_408.out
             have hnc56:=NB408_407.out
             obtain ⟨hcz57_0,hcz57_1,hcz57_2,hcz57_3⟩:=zc4 BK407.out
             obtain ⟨hfz57_0,hfz57_1,hfz57_2,hfz57_3⟩:=zf4 BK407.out
             go_wp2
             repeat (go_quiet (fail);try go_wp2)
             go_ret
             exact ⟨by first|(with_reducible rfl)|(simp only [isEmpty_bne,Bool.not_not] <;> rfl)|rfl|(simp [*,errW_none,errW_some] <;> rfl),by repeat (first|(with_reducible first|exact HB.out|apply zl1|apply zl2|apply zl3|refine below_set ?_ GE407.out|refine below_set ?_ GE408.out)|exact HB.out)⟩

end Go.Proofs.Ytokjbncjapndgaa.PAll
