/- Printed walks of the functions that the laws reach: each function, what it computes, and that it does. No conditions. -/
import Derived.Test.YtokjbncjapndgaaPAllx0
namespace Go.Proofs.Ytokjbncjapndgaa.PAll
open Go.RowKit Go.Proofs.Ytokjbncjapndgaa.XW Go.Proofs.Ytokjbncjapndgaa.XLib Go.Proofs.YtokjbncjapndgaaW.PrintWords Go.Proofs.YtokjbncjapndgaaW.PrintLast Go.Proofs.YtokjbncjapndgaaW.PrintMore
attribute [local go_sem] max2_int min2_int max_two min_two max_three min_three max_four min_four   -- for this text's walks alone
set_option linter.unusedVariables false
set_option linter.unusedSimpArgs false

/-! ### api_Pair_56: function 56 -/
def api_Pair_56.f (l0:List (S43)):Option (List (S43)):=if l0.length < 4398046511104 then some l0 else none
set_option maxHeartbeats 4000000 in
set_option maxRecDepth 100000 in
theorem api_Pair_56.calls (A0:Option Addr) (c0:Nat) (l0:List (S43)) (r:List (S43)) (w:World) (hr0:Kd.C k43 w A0 l0.length l0) (hc0:l0.length≤c0) (h:api_Pair_56.f l0=some r) :
  Calls Try.prog 56 #[.slice A0 l0.length c0] w fun e w'=>∃ v0_:Value,e=.returned (v0_)∧Kd.R k43 43 w' w.heap.size (fun _=>True) v0_ r∧Below w.heap.size w w':=by
 unfold api_Pair_56.f at h
 split at h
 case isFalse=>cases h
 rename_i hl
 obtain rfl:=Option.some.inj h
 have hu:=Try.underlying22
 have q_:∀ (w:World) (a:Option Addr) (n c n' c':Nat),(binOp .eql 22 (.slice a n c) (.slice none n' c')).run Try.prog w=.ok (.bool a.isNone) w:=fun w a n c n' c'=>Lib.run_eql_slice_nil w _ _ a n c n' c' hu
 cases A0 with
 | none =>
  obtain rfl:l0=[]:=by
   rcases l0 with _|⟨x,l⟩
   ·rfl
   ·obtain ⟨ad,h,_⟩:=hr0.2.2 (Nat.succ_pos _)
    cases h
  clear hr0
  go_enter Try.func56,Try.ntmps56
  go_wp2
  go_ret
  exact ⟨_,rfl,Kd.R_nil _ _ _ _ _,Below.refl _ _⟩
 | some a =>
  have HR:=Aside0.mk hr0
  have HL:=Aside0.mk hl
  clear hr0 hl
  go_enter Try.func56,Try.ntmps56
  go_wp2_with (at_builtin;refine Kd.R_append_rows k43 (w0:=w) w.heap.size rfl _ _ 22 43 (.agg #[(.string ⟨#[]⟩),(.string ⟨#[]⟩)]) 32 rfl Try.underlying22 info43 rfl (by decide) (by omega) _ [] l0 _ _ _ (fun _=>True) (fun _=>False) rfl rfl ?aO ?aR (fun _ _ h=>h) (fun _ h=>h.elim) (fun _ _=>trivial) ?aB ?aS ?aL ?_;(case aR=>exact Kd.C_alloc HR.out _);(case aO=>exact ⟨fun _ _=>trivial,[],World.ownsRow_made w #[] 0 (Nat.le_refl _) (Nat.zero_le _) rfl,Reps.none _ _⟩);(case aB=>exact below_alloc (Below.refl _ _) _);(case aS=>rw [World.size_alloc];exact Nat.le_succ _);(case aL=>have:=HL.out;simp only [List.length_nil];omega);intro v1 w1 ho hb hg hat)
  rw [List.nil_append] at ho
  go_wp2
  go_ret
  exact ⟨_,rfl,ho,hb⟩

/-! ### node_Find: function 12 -/
def node_Find.l0:Nat→ByteArray→Int→List (S43)→Int→Int→Bool→List (S43)→List ByteArray→List Int→Option (Int × Bool)
 | 0,_,_,_,_,_,_,_,_,_=>none
 | k + 1,x1,x6,x10,x11,x12,x102000,x102001,x102002,x102003=>if x12 < x11 then (if 0≤x12 then (if x12 < (x10.length:Int) then (if (Op.bytesLess (((rd_T43 x10 x12).f0).toList) x1.toList)=true then (node_Find.l0 k x1 (wrap64 (x6 + 1)) x10 x11 (wrap64 (x12 + 1)) x102000 x102001 x102002 x102003) else (node_Find.l0 k x1 x6 x10 x11 (wrap64 (x12 + 1)) x102000 x102001 x102002 x102003)) else (none)) else (none)) else (if x6 < (x102001.length:Int) then (if 0≤x6 then (some (x6,(((rd_T43 x102001 x6).f0).toList == x1.toList))) else (none)) else (some (x6,false)))
def node_Find.f (k:Nat) (a0_0:Bool) (l0_1:List (S43)) (l0_2:List ByteArray) (l0_3:List Int) (a1:ByteArray):Option (Int × Bool):=node_Find.l0 k a1 0 l0_1 (l0_1.length:Int) 0 a0_0 l0_1 l0_2 l0_3
theorem node_Find.mono_l:∀ k,(∀ y0 y1 y2 y3 y4 y5 y6 y7 y8,LeO (node_Find.l0 k y0 y1 y2 y3 y4 y5 y6 y7 y8) (node_Find.l0 (k + 1) y0 y1 y2 y3 y4 y5 y6 y7 y8))
 | 0=>fun _ _ _ _ _ _ _ _ _ r h=>by simp [node_Find.l0] at h
 | k + 1=>by
  have ih0:=node_Find.mono_l k
  ·intro y0 y1 y2 y3 y4 y5 y6 y7 y8
   unfold node_Find.l0
   repeat' first
   | (with_reducible exact ih0 _ _ _ _ _ _ _ _ _)
   | (with_reducible exact LeO.refl _)
   | (with_reducible exact LeO.none _)
   | (with_reducible refine LeO.ite ?_ ?_)
   | (with_reducible refine LeO.bind ?_ (fun _=>?_))
   | exact ih0 _ _ _ _ _ _ _ _ _
   | exact LeO.none _
   | refine LeO.ite ?_ ?_
   | refine LeO.bind ?_ (fun _=>?_)
theorem node_Find.mono:∀ a0 a1 a2 a3 a4 k,LeO (node_Find.f k a0 a1 a2 a3 a4) (node_Find.f (k + 1) a0 a1 a2 a3 a4):=by
 intro a0 a1 a2 a3 a4 k
 have ih0:=node_Find.mono_l k
 unfold node_Find.f
 repeat' first
   | (with_reducible exact ih0 _ _ _ _ _ _ _ _ _)
   | (with_reducible exact LeO.refl _)
   | (with_reducible exact LeO.none _)
   | (with_reducible refine LeO.ite ?_ ?_)
   | (with_reducible refine LeO.bind ?_ (fun _=>?_))
   | exact ih0 _ _ _ _ _ _ _ _ _
   | exact LeO.none _
   | refine LeO.ite ?_ ?_
   | refine LeO.bind ?_ (fun _=>?_)
set_option maxHeartbeats 8000000 in
set_option maxRecDepth 100000 in
theorem node_Find.calls (k:Nat) (a0_0:Bool) (A0_1:Option Addr) (c0_1:Nat) (l0_1:List (S43)) (A0_2:Option Addr) (c0_2:Nat) (l0_2:List ByteArray) (A0_3:Option Addr) (c0_3:Nat) (l0_3:List Int) (a1:ByteArray) (r1:Int) (r2:Bool) (w:World) (hr0_1:Kd.C k43 w A0_1 l0_1.length l0_1) (hc0_1:l0_1.length≤c0_1) (hr0_2:Kd.C Kd.string w A0_2 l0_2.length l0_2) (hc0_2:l0_2.length≤c0_2) (hr0_3:Kd.C (Kd.int .i64) w A0_3 l0_3.length l0_3) (hc0_3:l0_3.length≤c0_3) (h:node_Find.f k a0_0 l0_1 l0_2 l0_3 a1=some (r1,r2)) :
  Calls Try.prog 12 #[.agg #[.bool a0_0,.slice A0_1 l0_1.length c0_1,.slice A0_2 l0_2.length c0_2,.slice A0_3 l0_3.length c0_3],.string a1] w fun e w'=>e=.returned (.tuple #[.int .i64 r1,.bool r2])∧Below w.heap.size w w':=by
 have hu26:=Try.underlying26
 have hu43:=Try.underlying43
 have HR0_1:=Aside0.mk hr0_1
 have HC0_1:=Aside0.mk hc0_1
 clear hr0_1 hc0_1
 have HR0_2:=Aside0.mk hr0_2
 have HC0_2:=Aside0.mk hc0_2
 clear hr0_2 hc0_2
 have HR0_3:=Aside0.mk hr0_3
 have HC0_3:=Aside0.mk hc0_3
 clear hr0_3 hc0_3
 have HB:=Aside0.mk (Below.refl w.heap.size w)
 have H:(node_Find.l0 k a1 0 l0_1 (l0_1.length:Int) 0 a0_0 l0_1 l0_2 l0_3)=some (r1,r2):=h
 clear h
 have H':=Aside0.mk H
 clear H
 go_enter Try.func12,Try.ntmps12
 go_wp2_with (first|((with_reducible refine gate_dst (N:=2) rfl ?_);refine box_event ?hg (N:=2) ?hd (cs:=#[.bool a0_0,.slice A0_1 l0_1.length c0_1,.slice A0_2 l0_2.length c0_2,.slice A0_3 l0_3.length c0_3]) (t:=26) ?hr ?_;(case hd=>rfl);(case hg=>rfl);(case hr=>first|(go_simp;done)|(go_simp;rfl));intro gb101 hg w3 hbox hb;have BK101:=Aside0.mk (hbox);have GW101:=Aside0.mk ((by rw [hg];exact (below_size (by repeat (first|(with_reducible first|exact HB.out|apply zl1|apply zl2|apply zl3)|exact HB.out))):w.heap.size≤gb101));have GE101:=Aside0.mk ((by rw [hg];exact (below_size (by repeat (first|(with_reducible first|exact HB.out|apply zl1|apply zl2|apply zl3)|exact HB.out))):w.heap.size≤gb101));replace HB:=Aside0.mk (below_step (by repeat (first|(with_reducible first|exact HB.out|apply zl1|apply zl2|apply zl3)|exact HB.out)) hb);clear hb hbox hg;obtain ⟨hcz4_0,hcz4_1,hcz4_2,hcz4_3⟩:=zc4 BK101.out;obtain ⟨hfz4_0,hfz4_1,hfz4_2,hfz4_3⟩:=zf4 BK101.out))
 repeat (go_quiet (first|((with_reducible refine gate_dst (N:=2) rfl ?_);refine box_event ?hg (N:=2) ?hd (cs:=#[.bool a0_0,.slice A0_1 l0_1.length c0_1,.slice A0_2 l0_2.length c0_2,.slice A0_3 l0_3.length c0_3]) (t:=26) ?hr ?_;(case hd=>rfl);(case hg=>rfl);(case hr=>first|(go_simp;done)|(go_simp;rfl));intro gb101 hg w3 hbox hb;have BK101:=Aside0.mk (hbox);have GW101:=Aside0.mk ((by rw [hg];exact (below_size (by repeat (first|(with_reducible first|exact HB.out|apply zl1|apply zl2|apply zl3)|exact HB.out))):w.heap.size≤gb101));have GE101:=Aside0.mk ((by rw [hg];exact (below_size (by repeat (first|(with_reducible first|exact HB.out|apply zl1|apply zl2|apply zl3)|exact HB.out))):w.heap.size≤gb101));replace HB:=Aside0.mk (below_step (by repeat (first|(with_reducible first|exact HB.out|apply zl1|apply zl2|apply zl3)|exact HB.out)) hb);clear hb hbox hg;obtain ⟨hcz4_0,hcz4_1,hcz4_2,hcz4_3⟩:=zc4 BK101.out;obtain ⟨hfz4_0,hfz4_1,hfz4_2,hfz4_3⟩:=zf4 BK101.out));try go_wp2_with (first|((with_reducible refine gate_dst (N:=2) rfl ?_);refine box_event ?hg (N:=2) ?hd (cs:=#[.bool a0_0,.slice A0_1 l0_1.length c0_1,.slice A0_2 l0_2.length c0_2,.slice A0_3 l0_3.length c0_3]) (t:=26) ?hr ?_;(case hd=>rfl);(case hg=>rfl);(case hr=>first|(go_simp;done)|(go_simp;rfl));intro gb101 hg w3 hbox hb;have BK101:=Aside0.mk (hbox);have GW101:=Aside0.mk ((by rw [hg];exact (below_size (by repeat (first|(with_reducible first|exact HB.out|apply zl1|apply zl2|apply zl3)|exact HB.out))):w.heap.size≤gb101));have GE101:=Aside0.mk ((by rw [hg];exact (below_size (by repeat (first|(with_reducible first|exact HB.out|apply zl1|apply zl2|apply zl3)|exact HB.out))):w.heap.size≤gb101));replace HB:=Aside0.mk (below_step (by repeat (first|(with_reducible first|exact HB.out|apply zl1|apply zl2|apply zl3)|exact HB.out)) hb);clear hb hbox hg;obtain ⟨hcz4_0,hcz4_1,hcz4_2,hcz4_3⟩:=zc4 BK101.out;obtain ⟨hfz4_0,hfz4_1,hfz4_2,hfz4_3⟩:=zf4 BK101.out)))
 go_loopg [6,12] k (fun kq v6 v12 w'=>∃ (x6_1:Int) (x12_1:Int),v6=.int .i64 x6_1∧v12=.int .i64 x12_1∧Aside0 (node_Find.l0 kq a1 x6_1 l0_1 (l0_1.length:Int) x12_1 a0_0 l0_1 l0_2 l0_3=some (r1,r2))∧Aside0 (kq≤k)∧Aside0 (w'.heap[gb101]?=some (.cells #[.bool a0_0,(.slice A0_1 l0_1.length c0_1),(.slice A0_2 l0_2.length c0_2),(.slice A0_3 l0_3.length c0_3)] 26 (0,0)))∧Aside0 (Below w.heap.size w w'))
 case atStart=>exact ⟨(0),(0),(by first|(with_reducible rfl)|(simp;done)|(simp [*];done)|rfl|(simp only [not_isEmpty_bne])),(by first|(with_reducible rfl)|(simp;done)|(simp [*];done)|rfl|(simp only [not_isEmpty_bne])),H',⟨Nat.le_refl _⟩,⟨by (with_reducible repeat (first|apply zb1|apply zb2|apply zb3));exact BK101.out⟩,⟨by repeat (first|(with_reducible first|exact HB.out|apply zl1|apply zl2|apply zl3|refine below_set ?_ GE101.out)|exact HB.out)⟩⟩
 case round =>
  clear H'
  try clear hfz4_0 hfz4_1 hfz4_2 hfz4_3
  try clear hcz4_0 hcz4_1 hcz4_2 hcz4_3
  try clear c1
  try clear p2
  obtain ⟨x6_1,x12_1,rfl,rfl,HA,HK1,BK101,HB⟩:=hrel
  cases gk with
  | zero=>exact absurd HA.out (by simp [node_Find.l0])
  | succ k1 =>
   have H:=HA.out
   clear HA
   simp only [node_Find.l0] at H
   by_cases c5:x12_1 < (l0_1.length:Int)
   ·rw [if_pos c5] at H
    have c5b0:decide (x12_1 < (l0_1.length:Int))=true:=decide_eq_true c5
    clear c5
    by_cases c6:0≤x12_1
    ·rw [if_pos c6] at H
     have c6b0:decide (0≤x12_1)=true:=decide_eq_true c6
     clear c6
     by_cases c7:x12_1 < (l0_1.length:Int)
     ·rw [if_pos c7] at H
      have c7b0:decide (x12_1 < (l0_1.length:Int))=true:=decide_eq_true c7
      clear c7
      by_cases c8:(Op.bytesLess (((rd_T43 l0_1 x12_1).f0).toList) a1.toList)=true
      ·rw [if_pos c8] at H
       have c8b0:(Op.bytesLess (((rd_T43 l0_1 x12_1).f0).toList) a1.toList)=true:=c8
       clear c8
       have H':=Aside0.mk H
       clear H
       have p102:0≤(x12_1:Int):=of_decide_eq_true (by first|(with_reducible assumption)|assumption)
       have q102:x12_1 < (l0_1.length:Int):=of_decide_eq_true (by first|(with_reducible assumption)|assumption)
       obtain ⟨ad102,e102,hx102_0,hx102_1⟩:=at_T43 HR0_1.out x12_1 p102 q102
       cases e102
       replace hx102_0:=(HB.out.cell (World.block_lt_of_cell? w _ hx102_0)).trans hx102_0
       replace hx102_1:=(HB.out.cell (World.block_lt_of_cell? w _ hx102_1)).trans hx102_1
       replace p102:=eq_true p102
       replace q102:=eq_true q102
       go_wp2_with (first|((with_reducible refine gate_dst (N:=8) rfl ?_);refine box_event ?hg (N:=8) ?hd (cs:=#[.string (⟨#[]⟩:ByteArray),.string (⟨#[]⟩:ByteArray)]) (t:=43) ?hr ?_;(case hd=>rfl);(case hg=>rfl);(case hr=>first|(go_simp;done)|(go_simp;rfl));intro gb103 hg w9 hbox hb;have BK103:=Aside0.mk (hbox);have GW103:=Aside0.mk ((by rw [hg];exact (below_size (by repeat (first|(with_reducible first|exact HB.out|apply zl1|apply zl2|apply zl3|refine below_set ?_ GE101.out)|exact HB.out))):w.heap.size≤gb103));have GE103:=Aside0.mk ((by rw [hg];exact (below_size (by repeat (first|(with_reducible first|exact HB.out|apply zl1|apply zl2|apply zl3|refine below_set ?_ GE101.out)|exact HB.out))):w.heap.size≤gb103));replace HB:=Aside0.mk (below_step (by repeat (first|(with_reducible first|exact HB.out|apply zl1|apply zl2|apply zl3|refine below_set ?_ GE101.out)|exact HB.out)) hb);have NB101_103:=Aside0.mk ((by rw [hg];exact Nat.ne_of_lt (blk_lt (g:=gb101) (o:=.cells #[.bool a0_0,.slice (some ad102) l0_1.length c0_1,.slice A0_2 l0_2.length c0_2,.slice A0_3 l0_3.length c0_3] 26 (0,0)) (by (with_reducible repeat (first|apply zb1|apply zb2|apply zb3));exact BK101.out)):gb101 ≠ gb103));have NB103_101:=Aside0.mk ((by rw [hg];exact Nat.ne_of_gt (blk_lt (g:=gb101) (o:=.cells #[.bool a0_0,.slice (some ad102) l0_1.length c0_1,.slice A0_2 l0_2.length c0_2,.slice A0_3 l0_3.length c0_3] 26 (0,0)) (by (with_reducible repeat (first|apply zb1|apply zb2|apply zb3));exact BK101.out)):gb103 ≠ gb101));replace BK101:=Aside0.mk (blk_below (g:=gb101) (o:=.cells #[.bool a0_0,.slice (some ad102) l0_1.length c0_1,.slice A0_2 l0_2.length c0_2,.slice A0_3 l0_3.length c0_3] 26 (0,0)) (by (with_reducible repeat (first|apply zb1|apply zb2|apply zb3));exact BK101.out) hb);clear hb hbox hg;have hnb10:=NB103_101.out;have hnc10:=NB101_103.out;have hcz11_0:w9.cell? ⟨gb103,0,none⟩=some (.string (⟨#[]⟩:ByteArray)):=(blk_cell BK103.out 0).trans rfl;have hcz11_1:w9.cell? ⟨gb103,1,none⟩=some (.string (⟨#[]⟩:ByteArray)):=(blk_cell BK103.out 1).trans rfl;have hfz11_0:=blk_frozen BK103.out 0;have hfz11_1:=blk_frozen BK103.out 1))
       repeat (go_quiet (first|((with_reducible refine gate_dst (N:=8) rfl ?_);refine box_event ?hg (N:=8) ?hd (cs:=#[.string (⟨#[]⟩:ByteArray),.string (⟨#[]⟩:ByteArray)]) (t:=43) ?hr ?_;(case hd=>rfl);(case hg=>rfl);(case hr=>first|(go_simp;done)|(go_simp;rfl));intro gb103 hg w9 hbox hb;have BK103:=Aside0.mk (hbox);have GW103:=Aside0.mk ((by rw [hg];exact (below_size (by repeat (first|(with_reducible first|exact HB.out|apply zl1|apply zl2|apply zl3|refine below_set ?_ GE101.out)|exact HB.out))):w.heap.size≤gb103));have GE103:=Aside0.mk ((by rw [hg];exact (below_size (by repeat (first|(with_reducible first|exact HB.out|apply zl1|apply zl2|apply zl3|refine below_set ?_ GE101.out)|exact HB.out))):w.heap.size≤gb103));replace HB:=Aside0.mk (below_step (by repeat (first|(with_reducible first|exact HB.out|apply zl1|apply zl2|apply zl3|refine below_set ?_ GE101.out)|exact HB.out)) hb);have NB101_103:=Aside0.mk ((by rw [hg];exact Nat.ne_of_lt (blk_lt (g:=gb101) (o:=.cells #[.bool a0_0,.slice (some ad102) l0_1.length c0_1,.slice A0_2 l0_2.length c0_2,.slice A0_3 l0_3.length c0_3] 26 (0,0)) (by (with_reducible repeat (first|apply zb1|apply zb2|apply zb3));exact BK101.out)):gb101 ≠ gb103));have NB103_101:=Aside0.mk ((by rw [hg];exact Nat.ne_of_gt (blk_lt (g:=gb101) (o:=.cells #[.bool a0_0,.slice (some ad102) l0_1.length c0_1,.slice A0_2 l0_2.length c0_2,.slice A0_3 l0_3.length c0_3] 26 (0,0)) (by (with_reducible repeat (first|apply zb1|apply zb2|apply zb3));exact BK101.out)):gb103 ≠ gb101));replace BK101:=Aside0.mk (blk_below (g:=gb101) (o:=.cells #[.bool a0_0,.slice (some ad102) l0_1.length c0_1,.slice A0_2 l0_2.length c0_2,.slice A0_3 l0_3.length c0_3] 26 (0,0)) (by (with_reducible repeat (first|apply zb1|apply zb2|apply zb3));exact BK101.out) hb);clear hb hbox hg;have hnb10:=NB103_101.out;have hnc10:=NB101_103.out;have hcz11_0:w9.cell? ⟨gb103,0,none⟩=some (.string (⟨#[]⟩:ByteArray)):=(blk_cell BK103.out 0).trans rfl;have hcz11_1:w9.cell? ⟨gb103,1,none⟩=some (.string (⟨#[]⟩:ByteArray)):=(blk_cell BK103.out 1).trans rfl;have hfz11_0:=blk_frozen BK103.out 0;have hfz11_1:=blk_frozen BK103.out 1));try go_wp2_with (first|((with_reducible refine gate_dst (N:=8) rfl ?_);refine box_event ?hg (N:=8) ?hd (cs:=#[.string (⟨#[]⟩:ByteArray),.string (⟨#[]⟩:ByteArray)]) (t:=43) ?hr ?_;(case hd=>rfl);(case hg=>rfl);(case hr=>first|(go_simp;done)|(go_simp;rfl));intro gb103 hg w9 hbox hb;have BK103:=Aside0.mk (hbox);have GW103:=Aside0.mk ((by rw [hg];exact (below_size (by repeat (first|(with_reducible first|exact HB.out|apply zl1|apply zl2|apply zl3|refine below_set ?_ GE101.out)|exact HB.out))):w.heap.size≤gb103));have GE103:=Aside0.mk ((by rw [hg];exact (below_size (by repeat (first|(with_reducible first|exact HB.out|apply zl1|apply zl2|apply zl3|refine below_set ?_ GE101.out)|exact HB.out))):w.heap.size≤gb103));replace HB:=Aside0.mk (below_step (by repeat (first|(with_reducible first|exact HB.out|apply zl1|apply zl2|apply zl3|refine below_set ?_ GE101.out)|exact HB.out)) hb);have NB101_103:=Aside0.mk ((by rw [hg];exact Nat.ne_of_lt (blk_lt (g:=gb101) (o:=.cells #[.bool a0_0,.slice (some ad102) l0_1.length c0_1,.slice A0_2 l0_2.length c0_2,.slice A0_3 l0_3.length c0_3] 26 (0,0)) (by (with_reducible repeat (first|apply zb1|apply zb2|apply zb3));exact BK101.out)):gb101 ≠ gb103));have NB103_101:=Aside0.mk ((by rw [hg];exact Nat.ne_of_gt (blk_lt (g:=gb101) (o:=.cells #[.bool a0_0,.slice (some ad102) l0_1.length c0_1,.slice A0_2 l0_2.length c0_2,.slice A0_3 l0_3.length c0_3] 26 (0,0)) (by (with_reducible repeat (first|apply zb1|apply zb2|apply zb3));exact BK101.out)):gb103 ≠ gb101));replace BK101:=Aside0.mk (blk_below (g:=gb101) (o:=.cells #[.bool a0_0,.slice (some ad102) l0_1.length c0_1,.slice A0_2 l0_2.length c0_2,.slice A0_3 l0_3.length c0_3] 26 (0,0)) (by (with_reducible repeat (first|apply zb1|apply zb2|apply zb3));exact BK101.out) hb);clear hb hbox hg;have hnb10:=NB103_101.out;have hnc10:=NB101_103.out;have hcz11_0:w9.cell? ⟨gb103,0,none⟩=some (.string (⟨#[]⟩:ByteArray)):=(blk_cell BK103.out 0).trans rfl;have hcz11_1:w9.cell? ⟨gb103,1,none⟩=some (.string (⟨#[]⟩:ByteArray)):=(blk_cell BK103.out 1).trans rfl;have hfz11_0:=blk_frozen BK103.out 0;have hfz11_1:=blk_frozen BK103.out 1)))
       go_roundg k1
       case measure=>have:=HK1.out;omega
       case rel=>exact ⟨(wrap64 (x6_1 + 1)),(wrap64 (x12_1 + 1)),(by first|(with_reducible rfl)|(simp;done)|(simp [*];done)|rfl|(simp only [not_isEmpty_bne])),(by first|(with_reducible rfl)|(simp;done)|(simp [*];done)|rfl|(simp only [not_isEmpty_bne])),H',⟨by have:=HK1.out;omega⟩,⟨by (repeat (first|(with_reducible first|apply zb1|apply zb2|apply zb3|exact BK101.out)|refine blk_far ?_ NB101_103.out _))⟩,⟨by repeat (first|(with_reducible first|exact HB.out|apply zl1|apply zl2|apply zl3|refine below_set ?_ GE101.out|refine below_set ?_ GE103.out)|exact HB.out)⟩⟩
      ·rw [if_neg c8] at H
       have c8b0:(Op.bytesLess (((rd_T43 l0_1 x12_1).f0).toList) a1.toList)=false:=by simpa using c8
       clear c8
       have H':=Aside0.mk H
       clear H
       have p102:0≤(x12_1:Int):=of_decide_eq_true (by first|(with_reducible assumption)|assumption)
       have q102:x12_1 < (l0_1.length:Int):=of_decide_eq_true (by first|(with_reducible assumption)|assumption)
       obtain ⟨ad102,e102,hx102_0,hx102_1⟩:=at_T43 HR0_1.out x12_1 p102 q102
       cases e102
       replace hx102_0:=(HB.out.cell (World.block_lt_of_cell? w _ hx102_0)).trans hx102_0
       replace hx102_1:=(HB.out.cell (World.block_lt_of_cell? w _ hx102_1)).trans hx102_1
       replace p102:=eq_true p102
       replace q102:=eq_true q102
       go_wp2_with (first|((with_reducible refine gate_dst (N:=8) rfl ?_);refine box_event ?hg (N:=8) ?hd (cs:=#[.string (⟨#[]⟩:ByteArray),.string (⟨#[]⟩:ByteArray)]) (t:=43) ?hr ?_;(case hd=>rfl);(case hg=>rfl);(case hr=>first|(go_simp;done)|(go_simp;rfl));intro gb103 hg w12 hbox hb;have BK103:=Aside0.mk (hbox);have GW103:=Aside0.mk ((by rw [hg];exact (below_size (by repeat (first|(with_reducible first|exact HB.out|apply zl1|apply zl2|apply zl3|refine below_set ?_ GE101.out)|exact HB.out))):w.heap.size≤gb103));have GE103:=Aside0.mk ((by rw [hg];exact (below_size (by repeat (first|(with_reducible first|exact HB.out|apply zl1|apply zl2|apply zl3|refine below_set ?_ GE101.out)|exact HB.out))):w.heap.size≤gb103));replace HB:=Aside0.mk (below_step (by repeat (first|(with_reducible first|exact HB.out|apply zl1|apply zl2|apply zl3|refine below_set ?_ GE101.out)|exact HB.out)) hb);have NB101_103:=Aside0.mk ((by rw [hg];exact Nat.ne_of_lt (blk_lt (g:=gb101) (o:=.cells #[.bool a0_0,.slice (some ad102) l0_1.length c0_1,.slice A0_2 l0_2.length c0_2,.slice A0_3 l0_3.length c0_3] 26 (0,0)) (by (with_reducible repeat (first|apply zb1|apply zb2|apply zb3));exact BK101.out)):gb101 ≠ gb103));have NB103_101:=Aside0.mk ((by rw [hg];exact Nat.ne_of_gt (blk_lt (g:=gb101) (o:=.cells #[.bool a0_0,.slice (some ad102) l0_1.length c0_1,.slice A0_2 l0_2.length c0_2,.slice A0_3 l0_3.length c0_3] 26 (0,0)) (by (with_reducible repeat (first|apply zb1|apply zb2|apply zb3));exact BK101.out)):gb103 ≠ gb101));replace BK101:=Aside0.mk (blk_below (g:=gb101) (o:=.cells #[.bool a0_0,.slice (some ad102) l0_1.length c0_1,.slice A0_2 l0_2.length c0_2,.slice A0_3 l0_3.length c0_3] 26 (0,0)) (by (with_reducible repeat (first|apply zb1|apply zb2|apply zb3));exact BK101.out) hb);clear hb hbox hg;have hnb13:=NB103_101.out;have hnc13:=NB101_103.out;have hcz14_0:w12.cell? ⟨gb103,0,none⟩=some (.string (⟨#[]⟩:ByteArray)):=(blk_cell BK103.out 0).trans rfl;have hcz14_1:w12.cell? ⟨gb103,1,none⟩=some (.string (⟨#[]⟩:ByteArray)):=(blk_cell BK103.out 1).trans rfl;have hfz14_0:=blk_frozen BK103.out 0;have hfz14_1:=blk_frozen BK103.out 1))
       repeat (go_quiet (first|((with_reducible refine gate_dst (N:=8) rfl ?_);refine box_event ?hg (N:=8) ?hd (cs:=#[.string (⟨#[]⟩:ByteArray),.string (⟨#[]⟩:ByteArray)]) (t:=43) ?hr ?_;(case hd=>rfl);(case hg=>rfl);(case hr=>first|(go_simp;done)|(go_simp;rfl));intro gb103 hg w12 hbox hb;have BK103:=Aside0.mk (hbox);have GW103:=Aside0.mk ((by rw [hg];exact (below_size (by repeat (first|(with_reducible first|exact HB.out|apply zl1|apply zl2|apply zl3|refine below_set ?_ GE101.out)|exact HB.out))):w.heap.size≤gb103));have GE103:=Aside0.mk ((by rw [hg];exact (below_size (by repeat (first|(with_reducible first|exact HB.out|apply zl1|apply zl2|apply zl3|refine below_set ?_ GE101.out)|exact HB.out))):w.heap.size≤gb103));replace HB:=Aside0.mk (below_step (by repeat (first|(with_reducible first|exact HB.out|apply zl1|apply zl2|apply zl3|refine below_set ?_ GE101.out)|exact HB.out)) hb);have NB101_103:=Aside0.mk ((by rw [hg];exact Nat.ne_of_lt (blk_lt (g:=gb101) (o:=.cells #[.bool a0_0,.slice (some ad102) l0_1.length c0_1,.slice A0_2 l0_2.length c0_2,.slice A0_3 l0_3.length c0_3] 26 (0,0)) (by (with_reducible repeat (first|apply zb1|apply zb2|apply zb3));exact BK101.out)):gb101 ≠ gb103));have NB103_101:=Aside0.mk ((by rw [hg];exact Nat.ne_of_gt (blk_lt (g:=gb101) (o:=.cells #[.bool a0_0,.slice (some ad102) l0_1.length c0_1,.slice A0_2 l0_2.length c0_2,.slice A0_3 l0_3.length c0_3] 26 (0,0)) (by (with_reducible repeat (first|apply zb1|apply zb2|apply zb3));exact BK101.out)):gb103 ≠ gb101));replace BK101:=Aside0.mk (blk_below (g:=gb101) (o:=.cells #[.bool a0_0,.slice (some ad102) l0_1.length c0_1,.slice A0_2 l0_2.length c0_2,.slice A0_3 l0_3.length c0_3] 26 (0,0)) (by (with_reducible repeat (first|apply zb1|apply zb2|apply zb3));exact BK101.out) hb);clear hb hbox hg;have hnb13:=NB103_101.out;have hnc13:=NB101_103.out;have hcz14_0:w12.cell? ⟨gb103,0,none⟩=some (.string (⟨#[]⟩:ByteArray)):=(blk_cell BK103.out 0).trans rfl;have hcz14_1:w12.cell? ⟨gb103,1,none⟩=some (.string (⟨#[]⟩:ByteArray)):=(blk_cell BK103.out 1).trans rfl;have hfz14_0:=blk_frozen BK103.out 0;have hfz14_1:=blk_frozen BK103.out 1));try go_wp2_with (first|((with_reducible refine gate_dst (N:=8) rfl ?_);refine box_event ?hg (N:=8) ?hd (cs:=#[.string (⟨#[]⟩:ByteArray),.string (⟨#[]⟩:ByteArray)]) (t:=43) ?hr ?_;(case hd=>rfl);(case hg=>rfl);(case hr=>first|(go_simp;done)|(go_simp;rfl));intro gb103 hg w12 hbox hb;have BK103:=Aside0.mk (hbox);have GW103:=Aside0.mk ((by rw [hg];exact (below_size (by repeat (first|(with_reducible first|exact HB.out|apply zl1|apply zl2|apply zl3|refine below_set ?_ GE101.out)|exact HB.out))):w.heap.size≤gb103));have GE103:=Aside0.mk ((by rw [hg];exact (below_size (by repeat (first|(with_reducible first|exact HB.out|apply zl1|apply zl2|apply zl3|refine below_set ?_ GE101.out)|exact HB.out))):w.heap.size≤gb103));replace HB:=Aside0.mk (below_step (by repeat (first|(with_reducible first|exact HB.out|apply zl1|apply zl2|apply zl3|refine below_set ?_ GE101.out)|exact HB.out)) hb);have NB101_103:=Aside0.mk ((by rw [hg];exact Nat.ne_of_lt (blk_lt (g:=gb101) (o:=.cells #[.bool a0_0,.slice (some ad102) l0_1.length c0_1,.slice A0_2 l0_2.length c0_2,.slice A0_3 l0_3.length c0_3] 26 (0,0)) (by (with_reducible repeat (first|apply zb1|apply zb2|apply zb3));exact BK101.out)):gb101 ≠ gb103));have NB103_101:=Aside0.mk ((by rw [hg];exact Nat.ne_of_gt (blk_lt (g:=gb101) (o:=.cells #[.bool a0_0,.slice (some ad102) l0_1.length c0_1,.slice A0_2 l0_2.length c0_2,.slice A0_3 l0_3.length c0_3] 26 (0,0)) (by (with_reducible repeat (first|apply zb1|apply zb2|apply zb3));exact BK101.out)):gb103 ≠ gb101));replace BK101:=Aside0.mk (blk_below (g:=gb101) (o:=.cells #[.bool a0_0,.slice (some ad102) l0_1.length c0_1,.slice A0_2 l0_2.length c0_2,.slice A0_3 l0_3.length c0_3] 26 (0,0)) (by (with_reducible repeat (first|apply zb1|apply zb2|apply zb3));exact BK101.out) hb);clear hb hbox hg;have hnb13:=NB103_101.out;have hnc13:=NB101_103.out;have hcz14_0:w12.cell? ⟨gb103,0,none⟩=some (.string (⟨#[]⟩:ByteArray)):=(blk_cell BK103.out 0).trans rfl;have hcz14_1:w12.cell? ⟨gb103,1,none⟩=some (.string (⟨#[]⟩:ByteArray)):=(blk_cell BK103.out 1).trans rfl;have hfz14_0:=blk_frozen BK103.out 0;have hfz14_1:=blk_frozen BK103.out 1)))
       go_roundg k1
       case measure=>have:=HK1.out;omega
       case rel=>exact ⟨(x6_1),(wrap64 (x12_1 + 1)),(by first|(with_reducible rfl)|(simp;done)|(simp [*];done)|rfl|(simp only [not_isEmpty_bne])),(by first|(with_reducible rfl)|(simp;done)|(simp [*];done)|rfl|(simp only [not_isEmpty_bne])),H',⟨by have:=HK1.out;omega⟩,⟨by (repeat (first|(with_reducible first|apply zb1|apply zb2|apply zb3|exact BK101.out)|refine blk_far ?_ NB101_103.out _))⟩,⟨by repeat (first|(with_reducible first|exact HB.out|apply zl1|apply zl2|apply zl3|refine below_set ?_ GE101.out|refine below_set ?_ GE103.out)|exact HB.out)⟩⟩
     ·rw [if_neg c7] at H
      exact absurd H (by simp)
    ·rw [if_neg c6] at H
     exact absurd H (by simp)
   ·rw [if_neg c5] at H
    have c5b0:decide (x12_1 < (l0_1.length:Int))=false:=decide_eq_false c5
    clear c5
    by_cases c15:x6_1 < (l0_1.length:Int)
    ·rw [if_pos c15] at H
     have c15b0:decide (x6_1 < (l0_1.length:Int))=true:=decide_eq_true c15
     clear c15
     by_cases c16:0≤x6_1
     ·rw [if_pos c16] at H
      have c16b0:decide (0≤x6_1)=true:=decide_eq_true c16
      clear c16
      simp only [Option.some.injEq,Prod.mk.injEq] at H
      obtain ⟨rfl,rfl⟩:=H
      obtain ⟨hcz17_0,hcz17_1,hcz17_2,hcz17_3⟩:=zc4 BK101.out
      obtain ⟨hfz17_0,hfz17_1,hfz17_2,hfz17_3⟩:=zf4 BK101.out
      have p104:0≤(x6_1:Int):=of_decide_eq_true (by first|(with_reducible assumption)|assumption)
      have q104:x6_1 < (l0_1.length:Int):=of_decide_eq_true (by first|(with_reducible assumption)|assumption)
      obtain ⟨ad104,e104,hx104_0,hx104_1⟩:=at_T43 HR0_1.out x6_1 p104 q104
      cases e104
      replace hx104_0:=(HB.out.cell (World.block_lt_of_cell? w _ hx104_0)).trans hx104_0
      replace hx104_1:=(HB.out.cell (World.block_lt_of_cell? w _ hx104_1)).trans hx104_1
      replace p104:=eq_true p104
      replace q104:=eq_true q104
      go_wp2
      repeat (go_quiet (fail);try go_wp2)
      go_ret2
      exact ⟨by first|(with_reducible rfl)|(simp only [isEmpty_bne,Bool.not_not] <;> rfl)|rfl|(simp [*,errW_none,errW_some] <;> rfl),by repeat (first|(with_reducible first|exact HB.out|apply zl1|apply zl2|apply zl3|refine below_set ?_ GE101.out)|exact HB.out)⟩
     ·rw [if_neg c16] at H
      exact absurd H (by simp)
    ·rw [if_neg c15] at H
     have c15b0:decide (x6_1 < (l0_1.length:Int))=false:=decide_eq_false c15
     clear c15
     simp only [Option.some.injEq,Prod.mk.injEq] at H
     obtain ⟨rfl,rfl⟩:=H
     obtain ⟨hcz18_0,hcz18_1,hcz18_2,hcz18_3⟩:=zc4 BK101.out
     obtain ⟨hfz18_0,hfz18_1,hfz18_2,hfz18_3⟩:=zf4 BK101.out
     go_wp2
     repeat (go_quiet (fail);try go_wp2)
     go_ret2
     exact ⟨by first|(with_reducible rfl)|(simp only [isEmpty_bne,Bool.not_not] <;> rfl)|rfl|(simp [*,errW_none,errW_some] <;> rfl),by repeat (first|(with_reducible first|exact HB.out|apply zl1|apply zl2|apply zl3|refine below_set ?_ GE101.out)|exact HB.out)⟩

/-! ### api_Pair_60: function 60 -/
def api_Pair_60.f (l0:List (S43)) (a1:Int) (a2:Int):Option ((List (S43))):=none
theorem api_Pair_60.calls (A0:Option Addr) (c0:Nat) (l0:List (S43)) (a1:Int) (a2:Int) (r:List (S43)) (w:World) (hr0:Kd.C k43 w A0 l0.length l0) (hc0:l0.length≤c0) (h:api_Pair_60.f l0 a1 a2=some r) :
  Calls Try.prog 60 #[.slice A0 l0.length c0,.int .i64 a1,.int .i64 a2] w fun e w'=>∃ v0_:Value,e=.returned (v0_)∧Kd.R k43 43 w' w.heap.size (fun _=>True) v0_ r∧Below w.heap.size w w':=by
 cases h

end Go.Proofs.Ytokjbncjapndgaa.PAll
