/- Printed walks of the functions that the laws reach: each function, what it computes, and that it does. No conditions. -/
import Derived.Test.YtobjnhkjahhfnaaDoorPAllx0
import Derived.Test.YtobjnhkjahhfnaaDoorPAllx12
namespace Go.Proofs.YtobjnhkjahhfnaaDoor.PAll
open Go.RowKit Go.Proofs.YtobjnhkjahhfnaaDoor.XW Go.Proofs.YtobjnhkjahhfnaaDoor.XLib Go.Proofs.YtobjnhkjahhfnaaDoorW.PrintWords Go.Proofs.YtobjnhkjahhfnaaDoorW.PrintLast Go.Proofs.YtobjnhkjahhfnaaDoorW.PrintMore
attribute [local go_sem] max2_int min2_int max_two min_two max_three min_three max_four min_four   -- for this text's walks alone
set_option linter.unusedVariables false
set_option linter.unusedSimpArgs false

/-! ### factotumref16_First: function 30 -/
def factotumref16_First.l0:Nat→Int→List (S24)→Option (Int × (List (S24)))
 | 0,_,_=>none
 | k + 1,x273000,x273001=>if (x273001.length:Int) < 6 then ((factotumref16_nought.f).bind fun bt273=>(if x273001.length < 4398046511104 then (factotumref16_First.l0 k x273000 (x273001 ++ [(⟨bt273.1,bt273.2.1,bt273.2.2⟩:S24)])) else (none))) else (some (x273000,x273001))
def factotumref16_First.f (k:Nat) (a0_0:Int) (a0_1:Int) (a0_2:ByteArray):Option (Int × (List (S24))):=factotumref16_First.l0 k 0 (([(⟨a0_0,a0_1,a0_2⟩:S24)]:List (S24)))
theorem factotumref16_First.mono_l:∀ k,(∀ y0 y1,LeO (factotumref16_First.l0 k y0 y1) (factotumref16_First.l0 (k + 1) y0 y1))
 | 0=>fun _ _ r h=>by simp [factotumref16_First.l0] at h
 | k + 1=>by
  have ih0:=factotumref16_First.mono_l k
  ·intro y0 y1
   unfold factotumref16_First.l0
   repeat' first
   | (with_reducible exact ih0 _ _)
   | (with_reducible exact LeO.refl _)
   | (with_reducible exact LeO.none _)
   | (with_reducible refine LeO.ite ?_ ?_)
   | (with_reducible refine LeO.bind ?_ (fun _=>?_))
   | exact ih0 _ _
   | exact LeO.none _
   | refine LeO.ite ?_ ?_
   | refine LeO.bind ?_ (fun _=>?_)
theorem factotumref16_First.mono:∀ a0 a1 a2 k,LeO (factotumref16_First.f k a0 a1 a2) (factotumref16_First.f (k + 1) a0 a1 a2):=by
 intro a0 a1 a2 k
 have ih0:=factotumref16_First.mono_l k
 unfold factotumref16_First.f
 repeat' first
   | (with_reducible exact ih0 _ _)
   | (with_reducible exact LeO.refl _)
   | (with_reducible exact LeO.none _)
   | (with_reducible refine LeO.ite ?_ ?_)
   | (with_reducible refine LeO.bind ?_ (fun _=>?_))
   | exact ih0 _ _
   | exact LeO.none _
   | refine LeO.ite ?_ ?_
   | refine LeO.bind ?_ (fun _=>?_)
set_option maxHeartbeats 8000000 in
set_option maxRecDepth 100000 in
theorem factotumref16_First.calls (k:Nat) (a0_0:Int) (a0_1:Int) (a0_2:ByteArray) (r1:Int) (r2:List (S24)) (w:World) (h:factotumref16_First.f k a0_0 a0_1 a0_2=some (r1,r2)) :
  Calls Tryd.prog 30 #[.agg #[.int .i64 a0_0,.int .i64 a0_1,.string a0_2]] w fun e w'=>∃ v1_:Value,e=.returned (.agg #[.int .i64 r1,v1_])∧Kd.R k24 24 w' w.heap.size (fun _=>True) v1_ r2∧Below w.heap.size w w':=by
 have hu24:=Tryd.underlying24
 have hu28:=Tryd.underlying28
 have HB:=Aside0.mk (Below.refl w.heap.size w)
 have H:(factotumref16_First.l0 k 0 (([(⟨a0_0,a0_1,a0_2⟩:S24)]:List (S24))))=some (r1,r2):=h
 clear h
 obtain ⟨y269,hy269⟩:∃ y_:List (S24),y_=(([(⟨a0_0,a0_1,a0_2⟩:S24)]:List (S24))):=⟨_,rfl⟩
 replace H:(factotumref16_First.l0 k 0 y269)=some (r1,r2):=by first|(rw [hy269];with_reducible exact H)|(have H2_:=(Option.bind_some _ _).symm.trans H;rw [hy269];with_reducible exact H2_)|(have H2_:=(Option.bind_some _ _).symm.trans H;with_reducible exact H2_)|with_reducible exact H|(rw [hy269];exact H)|exact H
 have Ny269:=Aside0.mk hy269
 clear hy269
 have H':=Aside0.mk H
 clear H
 go_enter Tryd.func30,Tryd.ntmps30
 go_wp2_with (first|((with_reducible refine gate_dst (N:=1) rfl ?_);refine box_event ?hg (N:=1) ?hd (cs:=#[.int .i64 a0_0,.int .i64 a0_1,.string a0_2]) (t:=24) ?hr ?_;(case hd=>rfl);(case hg=>rfl);(case hr=>first|(go_simp;done)|(go_simp;rfl));intro gb267 hg w2 hbox hb;have BK267:=Aside0.mk (hbox);have GW267:=Aside0.mk ((by rw [hg];exact (below_size (by repeat (first|(with_reducible first|exact HB.out|apply zl1|apply zl2|apply zl3)|exact HB.out))):w.heap.size≤gb267));have GE267:=Aside0.mk ((by rw [hg];exact (below_size (by repeat (first|(with_reducible first|exact HB.out|apply zl1|apply zl2|apply zl3)|exact HB.out))):w.heap.size≤gb267));replace HB:=Aside0.mk (below_step (by repeat (first|(with_reducible first|exact HB.out|apply zl1|apply zl2|apply zl3)|exact HB.out)) hb);clear hb hbox hg)|((with_reducible refine gate_dst (N:=2) rfl ?_);refine box_event ?hg (N:=2) ?hd (cs:=#[.int .i64 0,.slice none 0 0]) (t:=28) ?hr ?_;(case hd=>rfl);(case hg=>rfl);(case hr=>first|(go_simp;done)|(go_simp;rfl));intro gb268 hg w3 hbox hb;have BK268:=Aside0.mk (hbox);have GW268:=Aside0.mk ((by rw [hg];exact (below_size (by repeat (first|(with_reducible first|exact HB.out|apply zl1|apply zl2|apply zl3|refine below_set ?_ GE267.out)|exact HB.out))):w.heap.size≤gb268));have GE268:=Aside0.mk ((by rw [hg];exact (below_size (by repeat (first|(with_reducible first|exact HB.out|apply zl1|apply zl2|apply zl3|refine below_set ?_ GE267.out)|exact HB.out))):w.heap.size≤gb268));replace HB:=Aside0.mk (below_step (by repeat (first|(with_reducible first|exact HB.out|apply zl1|apply zl2|apply zl3|refine below_set ?_ GE267.out)|exact HB.out)) hb);have NB267_268:=Aside0.mk ((by rw [hg];exact Nat.ne_of_lt (blk_lt (g:=gb267) (o:=.cells #[.int .i64 a0_0,.int .i64 a0_1,.string a0_2] 24 (0,0)) (by (with_reducible repeat (first|apply zb1|apply zb2|apply zb3));exact BK267.out)):gb267 ≠ gb268));have NB268_267:=Aside0.mk ((by rw [hg];exact Nat.ne_of_gt (blk_lt (g:=gb267) (o:=.cells #[.int .i64 a0_0,.int .i64 a0_1,.string a0_2] 24 (0,0)) (by (with_reducible repeat (first|apply zb1|apply zb2|apply zb3));exact BK267.out)):gb268 ≠ gb267));replace BK267:=Aside0.mk (blk_below (g:=gb267) (o:=.cells #[.int .i64 a0_0,.int .i64 a0_1,.string a0_2] 24 (0,0)) (by (with_reducible repeat (first|apply zb1|apply zb2|apply zb3));exact BK267.out) hb);clear hb hbox hg;have hnb4:=NB267_268.out;have hnc4:=NB268_267.out;have hcz5_0:w3.cell? ⟨gb267,0,none⟩=some (.int .i64 a0_0):=(blk_cell BK267.out 0).trans rfl;have hcz5_1:w3.cell? ⟨gb267,1,none⟩=some (.int .i64 a0_1):=(blk_cell BK267.out 1).trans rfl;have hcz5_2:w3.cell? ⟨gb267,2,none⟩=some (.string a0_2):=(blk_cell BK267.out 2).trans rfl;have hfz5_0:=blk_frozen BK267.out 0;have hfz5_1:=blk_frozen BK267.out 1;have hfz5_2:=blk_frozen BK267.out 2)|((with_reducible refine gate_dst (N:=5) rfl ?_);refine Kd.R_lit k24 _ 24 ?hg (N:=5) ?hd (xs:=([(⟨a0_0,a0_1,a0_2⟩:S24)]:List (S24))) (inner:=[.int .i64 a0_0,.int .i64 a0_1,.string a0_2]) (ok:=fun _=>True) (okp:=fun _=>True) ?hr ?hp (fun _ hk=>hk) trivial (Below.refl _ _) (Nat.le_refl _) (by simp) ?_;(case hd=>rfl);(case hg=>rfl);(case hr=>first|(go_simp;done)|(go_simp;rfl));(case hp=>exact (Reps.c3 (show Kd.M k24 _ _ _ (⟨a0_0,a0_1,a0_2⟩:S24) [.int .i64 a0_0,.int .i64 a0_1,.string a0_2] from (k24_mkM _ _ _ (⟨a0_0,a0_1,a0_2⟩:S24) )) (Reps.none _ _)));intro v270 w6 ho7 hb hg_ hnew_;clear hg_ hnew_;(first|rw [← Ny269.out] at ho7|(simp only [Int.reduceToNat] at ho7;rw [← Ny269.out] at ho7));have HO271:=Aside0.mk (Kd.R_lower (Kd.R_newB ho7 (g:=gb267) (o:=.cells #[.int .i64 a0_0,.int .i64 a0_1,.string a0_2] 24 (0,0)) (by (with_reducible repeat (first|apply zb1|apply zb2|apply zb3));exact BK267.out)) (below_size (by repeat (first|(with_reducible first|exact HB.out|apply zl1|apply zl2|apply zl3|refine below_set ?_ GE267.out|refine below_set ?_ GE268.out)|exact HB.out))));replace BK267:=Aside0.mk (blk_below (g:=gb267) (o:=.cells #[.int .i64 a0_0,.int .i64 a0_1,.string a0_2] 24 (0,0)) (by (with_reducible repeat (first|apply zb1|apply zb2|apply zb3));exact BK267.out) hb);replace BK268:=Aside0.mk (blk_below (g:=gb268) (o:=.cells #[.int .i64 0,.slice none 0 0] 28 (0,0)) (by (with_reducible repeat (first|apply zb1|apply zb2|apply zb3));exact BK268.out) hb);replace HB:=Aside0.mk (below_step (by repeat (first|(with_reducible first|exact HB.out|apply zl1|apply zl2|apply zl3|refine below_set ?_ GE267.out|refine below_set ?_ GE268.out)|exact HB.out)) hb);clear hb ho7;obtain ⟨Ao8,co8,eo8⟩:=Kd.R_slice HO271.out;subst eo8)|((with_reducible refine gate_dst (N:=3) rfl ?_);refine box_event ?hg (N:=3) ?hd (cs:=#[.int .i64 0,.slice none 0 0]) (t:=28) ?hr ?_;(case hd=>rfl);(case hg=>rfl);(case hr=>first|(go_simp;done)|(go_simp;rfl));intro gb272 hg w9 hbox hb;replace HO271:=Aside0.mk (Kd.R_below (by (with_reducible repeat (first|apply zk1|apply zk2|apply zk3));exact HO271.out) hb);have BK272:=Aside0.mk (hbox);have GW272:=Aside0.mk ((by rw [hg];exact (below_size (by repeat (first|(with_reducible first|exact HB.out|apply zl1|apply zl2|apply zl3|refine below_set ?_ GE267.out|refine below_set ?_ GE268.out)|exact HB.out))):w.heap.size≤gb272));have GE272:=Aside0.mk ((by rw [hg];exact (below_size (by repeat (first|(with_reducible first|exact HB.out|apply zl1|apply zl2|apply zl3|refine below_set ?_ GE267.out|refine below_set ?_ GE268.out)|exact HB.out))):w.heap.size≤gb272));replace HB:=Aside0.mk (below_step (by repeat (first|(with_reducible first|exact HB.out|apply zl1|apply zl2|apply zl3|refine below_set ?_ GE267.out|refine below_set ?_ GE268.out)|exact HB.out)) hb);have NB267_272:=Aside0.mk ((by rw [hg];exact Nat.ne_of_lt (blk_lt (g:=gb267) (o:=.cells #[.int .i64 a0_0,.int .i64 a0_1,.string a0_2] 24 (0,0)) (by (with_reducible repeat (first|apply zb1|apply zb2|apply zb3));exact BK267.out)):gb267 ≠ gb272));have NB272_267:=Aside0.mk ((by rw [hg];exact Nat.ne_of_gt (blk_lt (g:=gb267) (o:=.cells #[.int .i64 a0_0,.int .i64 a0_1,.string a0_2] 24 (0,0)) (by (with_reducible repeat (first|apply zb1|apply zb2|apply zb3));exact BK267.out)):gb272 ≠ gb267));replace BK267:=Aside0.mk (blk_below (g:=gb267) (o:=.cells #[.int .i64 a0_0,.int .i64 a0_1,.string a0_2] 24 (0,0)) (by (with_reducible repeat (first|apply zb1|apply zb2|apply zb3));exact BK267.out) hb);have NB268_272:=Aside0.mk ((by rw [hg];exact Nat.ne_of_lt (blk_lt (g:=gb268) (o:=.cells #[.int .i64 0,.slice none 0 0] 28 (0,0)) (by (with_reducible repeat (first|apply zb1|apply zb2|apply zb3));exact BK268.out)):gb268 ≠ gb272));have NB272_268:=Aside0.mk ((by rw [hg];exact Nat.ne_of_gt (blk_lt (g:=gb268) (o:=.cells #[.int .i64 0,.slice none 0 0] 28 (0,0)) (by (with_reducible repeat (first|apply zb1|apply zb2|apply zb3));exact BK268.out)):gb272 ≠ gb268));replace BK268:=Aside0.mk (blk_below (g:=gb268) (o:=.cells #[.int .i64 0,.slice none 0 0] 28 (0,0)) (by (with_reducible repeat (first|apply zb1|apply zb2|apply zb3));exact BK268.out) hb);clear hb hbox hg;have hnb10:=NB272_267.out;have hnc10:=NB267_272.out;have hnb11:=NB272_268.out;have hnc11:=NB268_272.out;have hcz12_0:w9.cell? ⟨gb272,0,none⟩=some (.int .i64 0):=(blk_cell BK272.out 0).trans rfl;have hcz12_1:w9.cell? ⟨gb272,1,none⟩=some (.slice none 0 0):=(blk_cell BK272.out 1).trans rfl;have hfz12_0:=blk_frozen BK272.out 0;have hfz12_1:=blk_frozen BK272.out 1))
 go_loopg [] k (fun kq w'=>∃ (x273001_1:List (S24)) (u273001:Value),Aside0 (factotumref16_First.l0 kq 0 x273001_1=some (r1,r2))∧Aside0 (kq≤k)∧Aside0 (Kd.R k24 24 w' w.heap.size (fun k_=>k_ ≠ gb267) u273001 x273001_1)∧Aside0 (w'.heap[gb267]?=some (.cells #[.int .i64 a0_0,.int .i64 a0_1,.string a0_2] 24 (0,0)))∧Aside0 (w'.heap[gb268]?=some (.cells #[.int .i64 0,(.slice none 0 0)] 28 (0,0)))∧Aside0 (w'.heap[gb272]?=some (.cells #[.int .i64 0,u273001] 28 (0,0)))∧Aside0 (Below w.heap.size w w'))
 case atStart=>exact ⟨(y269),(.slice Ao8 y269.length co8),H',⟨Nat.le_refl _⟩,⟨by (with_reducible repeat (first|apply zk1|apply zk2|apply zk3));exact Kd.R_mono (Kd.R_far (p:=⟨gb272,1,none⟩) (Kd.R_far (p:=⟨gb272,0,none⟩) (Kd.R_types HO271.out BK272.out (by decide)) (fun _ hk=>hk.2) (.int .i64 0)) (fun _ hk=>hk.2) (.slice Ao8 y269.length co8)) (fun _ hk=>hk.1.2)⟩,⟨by (with_reducible repeat (first|apply zb1|apply zb2|apply zb3));refine blk_far ?_ NB267_272.out _;(with_reducible repeat (first|apply zb1|apply zb2|apply zb3));refine blk_far ?_ NB267_272.out _;(with_reducible repeat (first|apply zb1|apply zb2|apply zb3));exact BK267.out⟩,⟨by (with_reducible repeat (first|apply zb1|apply zb2|apply zb3));refine blk_far ?_ NB268_272.out _;(with_reducible repeat (first|apply zb1|apply zb2|apply zb3));refine blk_far ?_ NB268_272.out _;(with_reducible repeat (first|apply zb1|apply zb2|apply zb3));exact BK268.out⟩,⟨by (with_reducible repeat (first|apply zb1|apply zb2|apply zb3));refine blk_put (cs:=#[.int .i64 0,.slice none 0 0]) ?_ 1 _ rfl;(with_reducible repeat (first|apply zb1|apply zb2|apply zb3));refine blk_put (cs:=#[.int .i64 0,.slice none 0 0]) ?_ 0 _ rfl;(with_reducible repeat (first|apply zb1|apply zb2|apply zb3));exact BK272.out⟩,⟨by repeat (first|(with_reducible first|exact HB.out|apply zl1|apply zl2|apply zl3|refine below_set ?_ GE267.out|refine below_set ?_ GE268.out|refine below_set ?_ GE272.out)|exact HB.out)⟩⟩
 case round =>
  clear H'
  try clear hfz12_0 hfz12_1 hfz5_0 hfz5_1 hfz5_2
  try clear hcz12_0 hcz12_1 hcz5_0 hcz5_1 hcz5_2
  try clear c1
  try clear p2
  try clear c3
  try clear c4
  try clear c10
  try clear c11
  obtain ⟨x273001_1,u273001,HA,HK1,HO_273001,BK267,BK268,BK272,HB⟩:=hrel
  cases gk with
  | zero=>exact absurd HA.out (by simp [factotumref16_First.l0])
  | succ k1 =>
   have H:=HA.out
   clear HA
   simp only [factotumref16_First.l0] at H
   by_cases c13:(x273001_1.length:Int) < 6
   ·rw [if_pos c13] at H
    have c13b0:decide ((x273001_1.length:Int) < 6)=true:=decide_eq_true c13
    have c13b1:decide (x273001_1.length < 6)=true:=decide_eq_true (by omega)
    clear c13
    replace H:=Option.bind_eq_some_iff.mp H
    obtain ⟨⟨t273,t274,t275⟩,A140,H⟩:=H
    replace H:(if x273001_1.length < 4398046511104 then (factotumref16_First.l0 k1 0 (x273001_1 ++ [(⟨t273,t274,t275⟩:S24)])) else (none))=some (r1,r2):=H
    have A14:=Aside0.mk A140
    clear A140
    by_cases c15:x273001_1.length < 4398046511104
    ·rw [if_pos c15] at H
     have LMc15:=Aside0.mk c15
     clear c15
     obtain ⟨y276,hy276⟩:∃ y_:List (S24),y_=(x273001_1 ++ [(⟨t273,t274,t275⟩:S24)]):=⟨_,rfl⟩
     replace H:(factotumref16_First.l0 k1 0 y276)=some (r1,r2):=by first|(rw [hy276];with_reducible exact H)|(have H2_:=(Option.bind_some _ _).symm.trans H;rw [hy276];with_reducible exact H2_)|(have H2_:=(Option.bind_some _ _).symm.trans H;with_reducible exact H2_)|with_reducible exact H|(rw [hy276];exact H)|exact H
     have Ny276:=Aside0.mk hy276
     clear hy276
     have H':=Aside0.mk H
     clear H
     have hnb16:=NB272_267.out
     have hnc16:=NB267_272.out
     have hnb17:=NB272_268.out
     have hnc17:=NB268_272.out
     have hcz18_0:wr.cell? ⟨gb272,0,none⟩=some (.int .i64 0):=(blk_cell BK272.out 0).trans rfl
     have hcz18_1:wr.cell? ⟨gb272,1,none⟩=some (u273001):=(blk_cell BK272.out 1).trans rfl
     have hfz18_0:=blk_frozen BK272.out 0
     have hfz18_1:=blk_frozen BK272.out 1
     obtain ⟨Ao19,co19,eo19⟩:=Kd.R_slice HO_273001.out
     subst eo19
     try go_wp2
     replace HO_273001:=Aside0.mk (Kd.R_drew HO_273001.out)
     replace BK267:=Aside0.mk (blk_drew BK267.out)
     replace BK268:=Aside0.mk (blk_drew BK268.out)
     replace BK272:=Aside0.mk (blk_drew BK272.out)
     replace HB:=Aside0.mk (below_drew1 HB.out)
     refine start_ (n:=7) (S:=fun w'=>w'.cell? ⟨gb272,0,none⟩=some (.int .i64 0)∧w'.cell? ⟨gb272,1,none⟩=some (.slice Ao19 x273001_1.length co19)) (ds:=[6]) #[false,false,false,false,false,false,false] (by kernel_rfl) rfl rfl ⟨(blk_cell BK272.out 0).trans rfl,(blk_cell BK272.out 1).trans rfl⟩ (fun hHeld=>?_)
     generalize wr.drew=w20 at HO_273001 BK267 BK268 BK272 HB hHeld ⊢
     refine pure_ (i:=0) (N:=some 11) (v:=?_) (a':=?_) #[true,false,false,false,false,false,false] rfl rfl (by kernel_rfl) (fun _ _ _ h=>h) (Or.inl ⟨by rfl,?_⟩) ?_ ?_
     rotate_left
     ·intro w'
      go_simp
      with_reducible rfl
     rotate_left
     ·simp only [Act.put,List.setIfInBounds_toArray,List.set_cons_zero,List.set_cons_succ,i64_w,i32_w]
      rfl
     refine take_ (i:=1) (N:=some 12) (v:=?_) (a':=?_) #[true,true,false,false,false,false,false] rfl rfl (by kernel_rfl) (fun _ _ _ h=>h) (Or.inl ⟨by rfl,?_⟩) hHeld ?_ ?_
     rotate_left
     ·rintro w' ⟨s0,s1⟩
      go_simp
      with_reducible rfl
     rotate_left
     ·simp only [Act.put,List.setIfInBounds_toArray,List.set_cons_zero,List.set_cons_succ,i64_w,i32_w]
      rfl
     refine one_ (i:=2) (N:=some 13) #[true,true,true,false,false,false,false] rfl rfl (by kernel_rfl) (by decide) (fun K hK=>?_)
     refine goes_ Tryd.func56 (by kernel_rfl) rfl #[] (by rfl) rfl rfl (by (try simp only [List.map_toArray,List.map_cons,List.map_nil]);first|done|rfl|(simp only [List.length_drop,List.length_take];rfl)|(simp (disch:=omega) only [u64_in];rfl)) ?_
     with_reducible refine (factotumref16_nought.calls  t273 t274 t275 _ A14.out).mono ?_
     rintro e w21 ⟨rfl,hb⟩
     refine ⟨_,rfl,?_⟩
     replace HO_273001:=Aside0.mk (Kd.R_below (by (with_reducible repeat (first|apply zk1|apply zk2|apply zk3));exact HO_273001.out) hb)
     replace BK267:=Aside0.mk (blk_below (g:=gb267) (o:=.cells #[.int .i64 a0_0,.int .i64 a0_1,.string a0_2] 24 (0,0)) (by (with_reducible repeat (first|apply zb1|apply zb2|apply zb3));exact BK267.out) hb)
     replace BK268:=Aside0.mk (blk_below (g:=gb268) (o:=.cells #[.int .i64 0,.slice none 0 0] 28 (0,0)) (by (with_reducible repeat (first|apply zb1|apply zb2|apply zb3));exact BK268.out) hb)
     replace BK272:=Aside0.mk (blk_below (g:=gb272) (o:=.cells #[.int .i64 0,.slice Ao19 x273001_1.length co19] 28 (0,0)) (by (with_reducible repeat (first|apply zb1|apply zb2|apply zb3));exact BK272.out) hb)
     replace HB:=Aside0.mk (below_step (by repeat (first|(with_reducible first|exact HB.out|apply zl1|apply zl2|apply zl3|refine below_set ?_ GE267.out|refine below_set ?_ GE268.out|refine below_set ?_ GE272.out)|exact HB.out)) hb)
     (try clear hb)
     (try clear hb2)
     (try clear hk)
     (try clear hi)
     refine hK.out _ _ ⟨(blk_cell BK272.out 0).trans rfl,(blk_cell BK272.out 1).trans rfl⟩ (fun hHeld=>?_)
     clear hK K
     refine norm_ (a':=?_) ?_ ?_
     rotate_left
     ·show Act.put _ (some 13) _=_
      simp only [Act.put,List.setIfInBounds_toArray,List.set_cons_zero,List.set_cons_succ,i64_w,i32_w]
      rfl
     refine one_ (i:=3) (N:=some 14) #[true,true,true,true,false,false,false] rfl rfl (by kernel_rfl) (by decide) (fun K hK=>?_)
     refine value_ (w1:=?_) (v:=?_) (by rfl) rfl ?_ ?_
     rotate_left 2
     ·go_simp
      constructor
      ·rfl
      ·rfl
     refine hK.out _ _ ⟨(blk_cell (blk_alloc BK272.out _) 0).trans rfl,(blk_cell (blk_alloc BK272.out _) 1).trans rfl⟩ (fun hHeld=>?_)
     clear hK K
     refine norm_ (a':=?_) ?_ ?_
     rotate_left
     ·show Act.put _ (some 14) _=_
      simp only [Act.put,List.setIfInBounds_toArray,List.set_cons_zero,List.set_cons_succ,i64_w,i32_w]
      rfl
     refine one_ (i:=4) (N:=some 15) #[true,true,true,true,true,false,false] rfl rfl (by kernel_rfl) (by decide) (fun K hK=>?_)
     refine Kd.R_append_step k24 (w0:=w) w.heap.size (by rfl) (.tmp 12) (.tmp 14) 26 24 (.agg #[(.int .i64 0),(.int .i64 0),(.string ⟨#[]⟩)]) 32 rfl Tryd.underlying26 info24 rfl (by decide) (by omega) (.slice Ao19 x273001_1.length co19) x273001_1 (⟨t273,t274,t275⟩:S24) [.int .i64 t273,.int .i64 t274,.string t275] (fun k_=>k_ ≠ gb267) (fun _=>False) rfl rfl ?aP (fun _ hk=>hk.elim) ?aF ?aO ?aB ?aS ?aL ?_
     (case aP=>exact k24_mkM _ _ _ (⟨t273,t274,t275⟩:S24))
     (case aB=>exact (by repeat (first|(with_reducible first|exact HB.out|apply zl1|apply zl2|apply zl3|refine below_set ?_ GE267.out|refine below_set ?_ GE268.out|refine below_set ?_ GE272.out)|exact HB.out)))
     (case aF=>exact (fun k_ hk=>Kd.freshB (g:=gb267) (o:=.cells #[.int .i64 a0_0,.int .i64 a0_1,.string a0_2] 24 (0,0)) (by (with_reducible repeat (first|apply zb1|apply zb2|apply zb3));exact BK267.out) k_ hk))
     (case aO=>exact (by (with_reducible repeat (first|apply zk1|apply zk2|apply zk3));exact HO_273001.out))
     (case aS=>exact (below_size (by repeat (first|(with_reducible first|exact HB.out|apply zl1|apply zl2|apply zl3|refine below_set ?_ GE267.out|refine below_set ?_ GE268.out|refine below_set ?_ GE272.out)|exact HB.out))))
     (case aL=>have:=LMc15.out;omega)
     intro v277 w22 ho hb hg hat
     rw [← Ny276.out] at ho
     have n0_:=Aside0.mk (blk_grown (g:=gb267) (o:=.cells #[.int .i64 a0_0,.int .i64 a0_1,.string a0_2] 24 (0,0)) (by (with_reducible repeat (first|apply zb1|apply zb2|apply zb3));exact BK267.out) hg (Kd.R_away HO_273001.out (fun _ hk=>hk)))
     have n1_:=Aside0.mk (blk_grown (g:=gb268) (o:=.cells #[.int .i64 0,.slice none 0 0] 28 (0,0)) (by (with_reducible repeat (first|apply zb1|apply zb2|apply zb3));exact BK268.out) hg (Kd.R_ne HO_273001.out BK268.out (by decide)))
     have n2_:=Aside0.mk (blk_grown (g:=gb272) (o:=.cells #[.int .i64 0,.slice Ao19 x273001_1.length co19] 28 (0,0)) (by (with_reducible repeat (first|apply zb1|apply zb2|apply zb3));exact BK272.out) hg (Kd.R_ne HO_273001.out BK272.out (by decide)))
     have n3_:=Aside0.mk (hb)
     have n4_:=Aside0.mk (ho)
     clear BK267
     clear BK268
     clear BK272
     clear HB
     clear HO_273001
     have BK267:=n0_
     have BK268:=n1_
     have BK272:=n2_
     have HB:=n3_
     have HO278:=n4_
     clear n0_ n1_ n2_ n3_ n4_
     clear ho hb hg hat
     obtain ⟨Ao23,co23,eo23⟩:=Kd.R_slice HO278.out
     (first|subst eo23|(injection eo23 with f1_ f2_ f3_;have f4_:=f1_.symm;have f5_:=f3_.symm;clear f1_ f2_ f3_;subst f4_;subst f5_))
     refine hK.out _ _ ⟨(blk_cell BK272.out 0).trans rfl,(blk_cell BK272.out 1).trans rfl⟩ (fun hHeld=>?_)
     clear hK K
     refine norm_ (a':=?_) ?_ ?_
     rotate_left
     ·show Act.put _ (some 15) _=_
      simp only [Act.put,List.setIfInBounds_toArray,List.set_cons_zero,List.set_cons_succ,i64_w,i32_w]
      rfl
     refine pure_ (i:=5) (N:=some 16) (v:=?_) (a':=?_) #[true,true,true,true,true,true,false] rfl rfl (by kernel_rfl) (fun _ _ _ h=>h) (Or.inl ⟨by rfl,?_⟩) ?_ ?_
     rotate_left
     ·intro w'
      go_simp
      with_reducible rfl
     rotate_left
     ·simp only [Act.put,List.setIfInBounds_toArray,List.set_cons_zero,List.set_cons_succ,i64_w,i32_w]
      rfl
     refine last_ (i:=6) (N:=none) #[true,true,true,true,true,true,true] rfl rfl (by kernel_rfl) (by decide) (fun K hK=>?_)
     have hs24:w22.cell? ⟨gb272,1,none⟩=some (.slice Ao19 x273001_1.length co19):=(blk_cell BK272.out 1).trans rfl
     have hfs24:=blk_frozen BK272.out 1
     have hns24_0:=NB267_272.out
     have hns24_1:=NB268_272.out
     have hms24_0:=NB272_267.out
     have hms24_1:=NB272_268.out
     refine skip_ (w1:=?_) (by rfl) rfl ?_ ?_
     rotate_left
     ·go_simp
      rfl
     refine hK.out _ _ ?_
     clear hK K
     refine done_ (by kernel_rfl) ?_
     try go_wp2
     go_roundg k1
     case measure=>have:=HK1.out;omega
     case rel=>exact ⟨(y276),(.slice Ao23 y276.length co23),H',⟨by have:=HK1.out;omega⟩,⟨by (with_reducible repeat (first|apply zk1|apply zk2|apply zk3));exact Kd.R_mono (Kd.R_far (p:=⟨gb272,1,none⟩) (Kd.R_types HO278.out BK272.out (by decide)) (fun _ hk=>hk.2) (.slice Ao23 y276.length co23)) (fun _ hk=>hk.1)⟩,⟨by (with_reducible repeat (first|apply zb1|apply zb2|apply zb3));refine blk_far ?_ NB267_272.out _;(with_reducible repeat (first|apply zb1|apply zb2|apply zb3));exact BK267.out⟩,⟨by (with_reducible repeat (first|apply zb1|apply zb2|apply zb3));refine blk_far ?_ NB268_272.out _;(with_reducible repeat (first|apply zb1|apply zb2|apply zb3));exact BK268.out⟩,⟨by (with_reducible repeat (first|apply zb1|apply zb2|apply zb3));refine blk_put (cs:=#[.int .i64 0,.slice Ao19 x273001_1.length co19]) ?_ 1 _ rfl;(with_reducible repeat (first|apply zb1|apply zb2|apply zb3));exact BK272.out⟩,⟨by repeat (first|(with_reducible first|exact HB.out|apply zl1|apply zl2|apply zl3|refine below_set ?_ GE267.out|refine below_set ?_ GE268.out|refine below_set ?_ GE272.out)|exact HB.out)⟩⟩
    ·rw [if_neg c15] at H
     exact absurd H (by simp)
   ·rw [if_neg c13] at H
    have c13b0:decide ((x273001_1.length:Int) < 6)=false:=decide_eq_false c13
    have c13b1:decide (x273001_1.length < 6)=false:=decide_eq_false (by omega)
    clear c13
    simp only [Option.some.injEq,Prod.mk.injEq] at H
    obtain ⟨rfl,rfl⟩:=H
    have hnb25:=NB272_267.out
    have hnc25:=NB267_272.out
    have hnb26:=NB272_268.out
    have hnc26:=NB268_272.out
    have hcz27_0:wr.cell? ⟨gb272,0,none⟩=some (.int .i64 0):=(blk_cell BK272.out 0).trans rfl
    have hcz27_1:wr.cell? ⟨gb272,1,none⟩=some (u273001):=(blk_cell BK272.out 1).trans rfl
    have hfz27_0:=blk_frozen BK272.out 0
    have hfz27_1:=blk_frozen BK272.out 1
    obtain ⟨Ao28,co28,eo28⟩:=Kd.R_slice HO_273001.out
    subst eo28
    have hnb29:=NB268_267.out
    have hnc29:=NB267_268.out
    have hcz30_0:wr.cell? ⟨gb268,0,none⟩=some (.int .i64 0):=(blk_cell BK268.out 0).trans rfl
    have hcz30_1:wr.cell? ⟨gb268,1,none⟩=some (.slice none 0 0):=(blk_cell BK268.out 1).trans rfl
    have hfz30_0:=blk_frozen BK268.out 0
    have hfz30_1:=blk_frozen BK268.out 1
    go_wp2
    refine bodyPost_ret (results_cell_row rfl _ _ gb268 28 #[.int .i64 0,.slice Ao28 x273001_1.length co28] (0,0) _ rfl (by (with_reducible repeat (first|apply zb1|apply zb2|apply zb3));refine blk_put (cs:=#[.int .i64 0,.slice none 0 0]) ?_ 1 _ rfl;(with_reducible repeat (first|apply zb1|apply zb2|apply zb3));refine blk_put (cs:=#[.int .i64 0,.slice none 0 0]) ?_ 0 _ rfl;(with_reducible repeat (first|apply zb1|apply zb2|apply zb3));exact BK268.out) Tryd.underlying28 rfl (by kernel_rfl)) rfl ?_
    exact ⟨_,by first|(with_reducible rfl)|(simp only [isEmpty_bne,Bool.not_not] <;> rfl)|rfl|(simp [*,errW_none,errW_some] <;> rfl),by (with_reducible repeat (first|apply zk1|apply zk2|apply zk3));exact Kd.R_mono (Kd.R_far (p:=⟨gb268,1,none⟩) (Kd.R_far (p:=⟨gb268,0,none⟩) (Kd.R_types HO_273001.out BK268.out (by decide)) (fun _ hk=>hk.2) (.int .i64 0)) (fun _ hk=>hk.2) (.slice Ao28 x273001_1.length co28)) (fun _ hk=>trivial),by repeat (first|(with_reducible first|exact HB.out|apply zl1|apply zl2|apply zl3|refine below_set ?_ GE267.out|refine below_set ?_ GE268.out|refine below_set ?_ GE272.out)|exact HB.out)⟩

end Go.Proofs.YtobjnhkjahhfnaaDoor.PAll
