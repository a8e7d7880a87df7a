/- Printed walks of the functions that the laws reach: each function, what it computes, and that it does. No conditions. -/
import Derived.Test.YtobjnhkjahhfnaaDoorPAllx0
import Derived.Test.YtobjnhkjahhfnaaDoorPAllx13
import Derived.Test.YtobjnhkjahhfnaaDoorPAllx16
namespace Go.Proofs.YtobjnhkjahhfnaaDoor.PAll
open Go.RowKit Go.Proofs.YtobjnhkjahhfnaaDoor.XW Go.Proofs.YtobjnhkjahhfnaaDoor.XLib Go.Proofs.YtobjnhkjahhfnaaDoorW.PrintWords Go.Proofs.YtobjnhkjahhfnaaDoorW.PrintLast Go.Proofs.YtobjnhkjahhfnaaDoorW.PrintMore
attribute [local go_sem] max2_int min2_int max_two min_two max_three min_three max_four min_four   -- for this text's walks alone
set_option linter.unusedVariables false
set_option linter.unusedSimpArgs false

/-! ### factotumref21_Begin: function 10 -/
def factotumref21_Begin.f (k:Nat) (a0:Int) (a1:Int) (a2_0:Int) (a2_1:Int) (a2_2:ByteArray):Option (Int × Int × Int × Int × ByteArray × Int × Int × Int × Int × Int × ByteArray × Int × (List (S24)) × Bool × Int):=(factotumref16_First.f k a2_0 a2_1 a2_2).bind fun bt293=>((factotumref21_Right.f k a0 a1 a2_0 a2_1 a2_2 1 0 0 0 0 (⟨#[]⟩:ByteArray) bt293.1 bt293.2 false).bind fun t298=>(if t298=true then (some (a0,a1,a2_0,a2_1,a2_2,1,0,0,0,0,(⟨#[]⟩:ByteArray),bt293.1,bt293.2,false,0)) else (some (0,0,0,0,(⟨#[]⟩:ByteArray),0,0,0,0,0,(⟨#[]⟩:ByteArray),0,([]:List (S24)),false,4))))
theorem factotumref21_Begin.mono:∀ a0 a1 a2 a3 a4 k,LeO (factotumref21_Begin.f k a0 a1 a2 a3 a4) (factotumref21_Begin.f (k + 1) a0 a1 a2 a3 a4):=by
 intro a0 a1 a2 a3 a4 k
 unfold factotumref21_Begin.f
 repeat' first
   | (with_reducible exact factotumref16_First.mono _ _ _ _)
   | (with_reducible exact factotumref21_Right.mono _ _ _ _ _ _ _ _ _ _ _ _ _ _ _)
   | (with_reducible exact LeO.refl _)
   | (with_reducible exact LeO.none _)
   | (with_reducible refine LeO.ite ?_ ?_)
   | (with_reducible refine LeO.bind ?_ (fun _=>?_))
   | exact factotumref16_First.mono _ _ _ _
   | exact factotumref21_Right.mono _ _ _ _ _ _ _ _ _ _ _ _ _ _ _
   | exact LeO.none _
   | refine LeO.ite ?_ ?_
   | refine LeO.bind ?_ (fun _=>?_)
def factotumref21_Begin.T1:Bool × List (List Nat × List Nat):=(true,[([],[]),([],[]),([],[]),([],[]),([3],[3]),([0,1,2,4],[0,1,2,4]),([],[]),([6,5,4,0,1,2,3,4,5,6],[5,6])])
def factotumref21_Begin.B1:List Nat:=[0,0,0,0,8,31,0,127]
theorem factotumref21_Begin.tab1:rtab .any (opsOf Tryd.f10 1)=factotumref21_Begin.T1:=by kernel_rfl
theorem factotumref21_Begin.bits1:waitsOk factotumref21_Begin.T1.2 factotumref21_Begin.B1=true:=by kernel_rfl
set_option maxHeartbeats 8000000 in
set_option maxRecDepth 100000 in
theorem factotumref21_Begin.calls (k:Nat) (a0:Int) (a1:Int) (a2_0:Int) (a2_1:Int) (a2_2:ByteArray) (r1:Int) (r2:Int) (r3:Int) (r4:Int) (r5:ByteArray) (r6:Int) (r7:Int) (r8:Int) (r9:Int) (r10:Int) (r11:ByteArray) (r12:Int) (r13:List (S24)) (r14:Bool) (r15:Int) (w:World) (h:factotumref21_Begin.f k a0 a1 a2_0 a2_1 a2_2=some (r1,r2,r3,r4,r5,r6,r7,r8,r9,r10,r11,r12,r13,r14,r15)) :
  Calls Tryd.prog 10 #[.int .i64 a0,.int .i64 a1,.agg #[.int .i64 a2_0,.int .i64 a2_1,.string a2_2]] w fun e w'=>∃ v12_:Value,e=.returned (.tuple #[.agg #[.int .i64 r1,.int .i64 r2,.int .i64 r3,.int .i64 r4,.string r5,.int .i64 r6,.int .i64 r7,.int .i64 r8,.int .i64 r9,.int .i64 r10,.string r11,.int .i64 r12,v12_,.bool r14],.int .i64 r15])∧Kd.R k24 24 w' w.heap.size (fun _=>True) v12_ r13∧Below w.heap.size w w':=by
 have hu24:=Tryd.underlying24
 have hu30:=Tryd.underlying30
 have HB:=Aside0.mk (Below.refl w.heap.size w)
 have H:((factotumref16_First.f k a2_0 a2_1 a2_2).bind fun bt293=>((factotumref21_Right.f k a0 a1 a2_0 a2_1 a2_2 1 0 0 0 0 (⟨#[]⟩:ByteArray) bt293.1 bt293.2 false).bind fun t298=>(if t298=true then (some (a0,a1,a2_0,a2_1,a2_2,1,0,0,0,0,(⟨#[]⟩:ByteArray),bt293.1,bt293.2,false,0)) else (some (0,0,0,0,(⟨#[]⟩:ByteArray),0,0,0,0,0,(⟨#[]⟩:ByteArray),0,([]:List (S24)),false,4)))))=some (r1,r2,r3,r4,r5,r6,r7,r8,r9,r10,r11,r12,r13,r14,r15):=h
 clear h
 replace H:=Option.bind_eq_some_iff.mp H
 obtain ⟨⟨t293,t294⟩,A40,H⟩:=H
 replace H:((factotumref21_Right.f k a0 a1 a2_0 a2_1 a2_2 1 0 0 0 0 (⟨#[]⟩:ByteArray) t293 t294 false).bind fun t298=>(if t298=true then (some (a0,a1,a2_0,a2_1,a2_2,1,0,0,0,0,(⟨#[]⟩:ByteArray),t293,t294,false,0)) else (some (0,0,0,0,(⟨#[]⟩:ByteArray),0,0,0,0,0,(⟨#[]⟩:ByteArray),0,([]:List (S24)),false,4))))=some (r1,r2,r3,r4,r5,r6,r7,r8,r9,r10,r11,r12,r13,r14,r15):=H
 have A4:=Aside0.mk A40
 clear A40
 replace H:=Option.bind_eq_some_iff.mp H
 obtain ⟨t298,A50,H⟩:=H
 replace H:(if t298=true then (some (a0,a1,a2_0,a2_1,a2_2,1,0,0,0,0,(⟨#[]⟩:ByteArray),t293,t294,false,0)) else (some (0,0,0,0,(⟨#[]⟩:ByteArray),0,0,0,0,0,(⟨#[]⟩:ByteArray),0,([]:List (S24)),false,4)))=some (r1,r2,r3,r4,r5,r6,r7,r8,r9,r10,r11,r12,r13,r14,r15):=H
 have A5:=Aside0.mk A50
 clear A50
 by_cases c6:t298=true
 ·subst c6
  have H1:(some (a0,a1,a2_0,a2_1,a2_2,1,0,0,0,0,(⟨#[]⟩:ByteArray),t293,t294,false,0))=some (r1,r2,r3,r4,r5,r6,r7,r8,r9,r10,r11,r12,r13,r14,r15):=by rw [if_pos rfl] at H;exact H
  clear H
  have H:=H1
  clear H1
  simp only [Option.some.injEq,Prod.mk.injEq] at H
  obtain ⟨rfl,rfl,rfl,rfl,rfl,rfl,rfl,rfl,rfl,rfl,rfl,rfl,rfl,rfl,rfl⟩:=H
  go_enter Tryd.func10,Tryd.ntmps10
  try go_wp2_with (first|((with_reducible refine gate_dst (N:=5) rfl ?_);refine box_event ?hg (N:=5) ?hd (cs:=#[.int .i64 a2_0,.int .i64 a2_1,.string a2_2]) (t:=24) ?hr ?_;(case hd=>rfl);(case hg=>rfl);(case hr=>first|(go_simp;done)|(go_simp;rfl));intro gb291 hg w7 hbox hb;have BK291:=Aside0.mk (hbox);have GW291:=Aside0.mk ((by rw [hg];exact (below_size (by repeat (first|(with_reducible first|exact HB.out|apply zl1|apply zl2|apply zl3)|exact HB.out))):w.heap.size≤gb291));have GE291:=Aside0.mk ((by rw [hg];exact (below_size (by repeat (first|(with_reducible first|exact HB.out|apply zl1|apply zl2|apply zl3)|exact HB.out))):w.heap.size≤gb291));replace HB:=Aside0.mk (below_step (by repeat (first|(with_reducible first|exact HB.out|apply zl1|apply zl2|apply zl3)|exact HB.out)) hb);clear hb hbox hg)|((with_reducible refine gate_dst (N:=6) rfl ?_);refine box_event ?hg (N:=6) ?hd (cs:=#[.int .i64 0,.int .i64 0,.int .i64 0,.int .i64 0,.string (⟨#[]⟩:ByteArray),.int .i64 0,.int .i64 0,.int .i64 0,.int .i64 0,.int .i64 0,.string (⟨#[]⟩:ByteArray),.int .i64 0,.slice none 0 0,.bool false]) (t:=30) ?hr ?_;(case hd=>rfl);(case hg=>rfl);(case hr=>first|(go_simp;done)|(go_simp;rfl));intro gb292 hg w8 hbox hb;have BK292:=Aside0.mk (hbox);have GW292:=Aside0.mk ((by rw [hg];exact (below_size (by repeat (first|(with_reducible first|exact HB.out|apply zl1|apply zl2|apply zl3|refine below_set ?_ GE291.out)|exact HB.out))):w.heap.size≤gb292));have GE292:=Aside0.mk ((by rw [hg];exact (below_size (by repeat (first|(with_reducible first|exact HB.out|apply zl1|apply zl2|apply zl3|refine below_set ?_ GE291.out)|exact HB.out))):w.heap.size≤gb292));replace HB:=Aside0.mk (below_step (by repeat (first|(with_reducible first|exact HB.out|apply zl1|apply zl2|apply zl3|refine below_set ?_ GE291.out)|exact HB.out)) hb);have NB291_292:=Aside0.mk ((by rw [hg];exact Nat.ne_of_lt (blk_lt (g:=gb291) (o:=.cells #[.int .i64 a2_0,.int .i64 a2_1,.string a2_2] 24 (0,0)) (by (with_reducible repeat (first|apply zb1|apply zb2|apply zb3));exact BK291.out)):gb291 ≠ gb292));have NB292_291:=Aside0.mk ((by rw [hg];exact Nat.ne_of_gt (blk_lt (g:=gb291) (o:=.cells #[.int .i64 a2_0,.int .i64 a2_1,.string a2_2] 24 (0,0)) (by (with_reducible repeat (first|apply zb1|apply zb2|apply zb3));exact BK291.out)):gb292 ≠ gb291));replace BK291:=Aside0.mk (blk_below (g:=gb291) (o:=.cells #[.int .i64 a2_0,.int .i64 a2_1,.string a2_2] 24 (0,0)) (by (with_reducible repeat (first|apply zb1|apply zb2|apply zb3));exact BK291.out) hb);clear hb hbox hg))
  replace BK291:=Aside0.mk (blk_drew BK291.out)
  replace BK292:=Aside0.mk (blk_drew BK292.out)
  replace HB:=Aside0.mk (below_drew1 HB.out)
  refine start_ (n:=8) (S:=fun w'=>w'.cell? ⟨gb291,0,none⟩=some (.int .i64 a2_0)∧w'.cell? ⟨gb291,1,none⟩=some (.int .i64 a2_1)∧w'.cell? ⟨gb291,2,none⟩=some (.string a2_2)) (ds:=[]) #[false,false,false,false,false,false,false,false] (by kernel_rfl) rfl rfl ⟨(blk_cell BK291.out 0).trans rfl,(blk_cell BK291.out 1).trans rfl,(blk_cell BK291.out 2).trans rfl⟩ (fun hHeld=>?_);refine with_tabW factotumref21_Begin.tab1 factotumref21_Begin.bits1 (fun HT_ HW_=>?_)
  generalize w8.drew=w9 at BK291 BK292 HB hHeld ⊢
  refine pure_ (i:=0) (N:=some 9) (v:=?_) (a':=?_) #[true,false,false,false,false,false,false,false] rfl rfl (any_of HT_.out (by kernel_rfl)) (fun _ _ _ h=>h) (Or.inl ⟨by rfl,?_⟩) ?_ ?_
  rotate_left
  ·intro w'
   go_simp
   with_reducible rfl
  rotate_left
  ·simp only [Act.put,List.setIfInBounds_toArray,List.set_cons_zero,List.set_cons_succ,i64_w,i32_w]
   rfl
  refine pure_ (i:=1) (N:=some 10) (v:=?_) (a':=?_) #[true,true,false,false,false,false,false,false] rfl rfl (any_of HT_.out (by kernel_rfl)) (fun _ _ _ h=>h) (Or.inl ⟨by rfl,?_⟩) ?_ ?_
  rotate_left
  ·intro w'
   go_simp
   with_reducible rfl
  rotate_left
  ·simp only [Act.put,List.setIfInBounds_toArray,List.set_cons_zero,List.set_cons_succ,i64_w,i32_w]
   rfl
  refine take_ (i:=2) (N:=some 11) (v:=?_) (a':=?_) #[true,true,true,false,false,false,false,false] rfl rfl (take_ofW HT_.out HW_.out (by kernel_rfl)) (fun _ _ _ h=>h) (Or.inl ⟨by rfl,?_⟩) hHeld ?_ ?_
  rotate_left
  ·rintro w' ⟨s0,s1,s2⟩
   go_simp
   with_reducible rfl
  rotate_left
  ·simp only [Act.put,List.setIfInBounds_toArray,List.set_cons_zero,List.set_cons_succ,i64_w,i32_w]
   rfl
  refine take_ (i:=3) (N:=some 12) (v:=?_) (a':=?_) #[true,true,true,true,false,false,false,false] rfl rfl (take_ofW HT_.out HW_.out (by kernel_rfl)) (fun _ _ _ h=>h) (Or.inl ⟨by rfl,?_⟩) hHeld ?_ ?_
  rotate_left
  ·rintro w' ⟨s0,s1,s2⟩
   go_simp
   with_reducible rfl
  rotate_left
  ·simp only [Act.put,List.setIfInBounds_toArray,List.set_cons_zero,List.set_cons_succ,i64_w,i32_w]
   rfl
  refine join_ (σ:=Value × Nat) 1 #[true,true,true,true,true,true,true,false] (fun s_=>[(13,.agg #[.int .i64 t293,s_.1]),(8,.pointer (some ⟨s_.2,0,none⟩)),(14,.agg #[.int .i64 a0,.int .i64 a1,.int .i64 a2_0,.int .i64 a2_1,.string a2_2,.int .i64 1,.int .i64 0,.int .i64 0,.int .i64 0,.int .i64 0,.string (⟨#[]⟩:ByteArray),.int .i64 t293,s_.1,.bool false])]) (fun s_ w'=>(w'.cell? ⟨gb291,0,none⟩=some (.int .i64 a2_0)∧w'.cell? ⟨gb291,1,none⟩=some (.int .i64 a2_1)∧w'.cell? ⟨gb291,2,none⟩=some (.string a2_2))∧(Kd.R k24 24 w' w.heap.size (fun k_=>k_ ≠ gb291) s_.1 t294)∧(w'.heap[gb291]?=some (.cells #[.int .i64 a2_0,.int .i64 a2_1,.string a2_2] 24 (0,0)))∧(w'.heap[gb292]?=some (.cells #[.int .i64 0,.int .i64 0,.int .i64 0,.int .i64 0,.string (⟨#[]⟩:ByteArray),.int .i64 0,.int .i64 0,.int .i64 0,.int .i64 0,.int .i64 0,.string (⟨#[]⟩:ByteArray),.int .i64 0,.slice none 0 0,.bool false] 30 (0,0)))∧(w'.heap[s_.2]?=some (.cells #[.int .i64 0,.int .i64 0,.int .i64 0,.int .i64 0,.string (⟨#[]⟩:ByteArray),.int .i64 0,.int .i64 0,.int .i64 0,.int .i64 0,.int .i64 0,.string (⟨#[]⟩:ByteArray),.int .i64 0,.slice none 0 0,.bool false] 30 (0,0)))∧(w.heap.size≤s_.2)∧(w.heap.size≤s_.2)∧(gb291 ≠ s_.2)∧(s_.2 ≠ gb291)∧(gb292 ≠ s_.2)∧(s_.2 ≠ gb292)∧(Below w.heap.size w w')) ?_ ?_
  rotate_left
  ·intro hCont
   refine two_ (i:=4) (j:=6) (Ni:=some 13) (Nj:=some 8) #[true,true,true,true,true,false,false,false] #[true,true,true,true,false,false,true,false] rfl rfl rfl rfl (two_of HT_.out (by kernel_rfl)) (by decide) (by decide) (fun K hK=>?_) (fun K hK=>?_)
   ·skip
    refine goes_ Tryd.func30 (by kernel_rfl) rfl #[.agg #[.int .i64 a2_0,.int .i64 a2_1,.string a2_2]] (by rfl) rfl rfl (by (try simp only [List.map_toArray,List.map_cons,List.map_nil]);first|done|rfl|(simp only [List.length_drop,List.length_take];rfl)|(simp (disch:=omega) only [u64_in];rfl)) ?_
    with_reducible refine (factotumref16_First.calls k a2_0 a2_1 a2_2 t293 t294 _ A4.out).mono ?_
    rintro e w10 ⟨v295,rfl,ho0,hb⟩
    refine ⟨_,rfl,?_⟩
    have HO296:=Aside0.mk (Kd.R_lower (Kd.R_newB ho0 (g:=gb291) (o:=.cells #[.int .i64 a2_0,.int .i64 a2_1,.string a2_2] 24 (0,0)) (by (with_reducible repeat (first|apply zb1|apply zb2|apply zb3));exact BK291.out)) (below_size (by repeat (first|(with_reducible first|exact HB.out|apply zl1|apply zl2|apply zl3|refine below_set ?_ GE291.out|refine below_set ?_ GE292.out)|exact HB.out))))
    replace BK291:=Aside0.mk (blk_below (g:=gb291) (o:=.cells #[.int .i64 a2_0,.int .i64 a2_1,.string a2_2] 24 (0,0)) (by (with_reducible repeat (first|apply zb1|apply zb2|apply zb3));exact BK291.out) hb)
    replace BK292:=Aside0.mk (blk_below (g:=gb292) (o:=.cells #[.int .i64 0,.int .i64 0,.int .i64 0,.int .i64 0,.string (⟨#[]⟩:ByteArray),.int .i64 0,.int .i64 0,.int .i64 0,.int .i64 0,.int .i64 0,.string (⟨#[]⟩:ByteArray),.int .i64 0,.slice none 0 0,.bool false] 30 (0,0)) (by (with_reducible repeat (first|apply zb1|apply zb2|apply zb3));exact BK292.out) hb)
    replace HB:=Aside0.mk (below_step (by repeat (first|(with_reducible first|exact HB.out|apply zl1|apply zl2|apply zl3|refine below_set ?_ GE291.out|refine below_set ?_ GE292.out)|exact HB.out)) hb)
    (try clear hb)
    (try clear hb2)
    (try clear hk)
    (try clear hi)
    (try clear ho0)
    obtain ⟨Ao11,co11,eo11⟩:=Kd.R_slice HO296.out
    (first|subst eo11|(injection eo11 with f1_ f2_ f3_;have f4_:=f1_.symm;have f5_:=f3_.symm;clear f1_ f2_ f3_;subst f4_;subst f5_))
    refine hK.out _ _ ⟨(blk_cell BK291.out 0).trans rfl,(blk_cell BK291.out 1).trans rfl,(blk_cell BK291.out 2).trans rfl⟩ (fun hHeld=>?_)
    clear hK K
    refine norm_ (a':=?_) ?_ ?_
    rotate_left
    ·show Act.put _ (some 13) _=_
     simp only [Act.put,List.setIfInBounds_toArray,List.set_cons_zero,List.set_cons_succ,i64_w,i32_w]
     rfl
    refine pure_ (i:=5) (N:=some 14) (v:=?_) (a':=?_) #[true,true,true,true,true,true,false,false] rfl rfl (any_of HT_.out (by kernel_rfl)) (fun _ _ _ h=>h) (Or.inl ⟨by rfl,?_⟩) ?_ ?_
    rotate_left
    ·intro w'
     go_simp
     with_reducible rfl
    rotate_left
    ·simp only [Act.put,List.setIfInBounds_toArray,List.set_cons_zero,List.set_cons_succ,i64_w,i32_w]
     rfl
    refine one_ (i:=6) (N:=some 8) #[true,true,true,true,true,true,true,false] rfl rfl (one_of HT_.out (by kernel_rfl)) (by decide) (fun K hK=>?_)
    refine box_step ?hg (N:=8) ?hd (cs:=#[.int .i64 0,.int .i64 0,.int .i64 0,.int .i64 0,.string (⟨#[]⟩:ByteArray),.int .i64 0,.int .i64 0,.int .i64 0,.int .i64 0,.int .i64 0,.string (⟨#[]⟩:ByteArray),.int .i64 0,.slice none 0 0,.bool false]) (t:=30) ?hr ?_;(case hd=>rfl);(case hg=>rfl);(case hr=>first|(go_simp;done)|(go_simp;rfl))
    intro gb297 hg w12 hbox hb
    replace HO296:=Aside0.mk (Kd.R_below (by (with_reducible repeat (first|apply zk1|apply zk2|apply zk3));exact HO296.out) hb)
    have BK297:=Aside0.mk (hbox)
    have GW297:=Aside0.mk ((by rw [hg];exact (below_size (by repeat (first|(with_reducible first|exact HB.out|apply zl1|apply zl2|apply zl3|refine below_set ?_ GE291.out|refine below_set ?_ GE292.out)|exact HB.out))):w.heap.size≤gb297))
    have GE297:=Aside0.mk ((by rw [hg];exact (below_size (by repeat (first|(with_reducible first|exact HB.out|apply zl1|apply zl2|apply zl3|refine below_set ?_ GE291.out|refine below_set ?_ GE292.out)|exact HB.out))):w.heap.size≤gb297))
    replace HB:=Aside0.mk (below_step (by repeat (first|(with_reducible first|exact HB.out|apply zl1|apply zl2|apply zl3|refine below_set ?_ GE291.out|refine below_set ?_ GE292.out)|exact HB.out)) hb)
    have NB291_297:=Aside0.mk ((by rw [hg];exact Nat.ne_of_lt (blk_lt (g:=gb291) (o:=.cells #[.int .i64 a2_0,.int .i64 a2_1,.string a2_2] 24 (0,0)) (by (with_reducible repeat (first|apply zb1|apply zb2|apply zb3));exact BK291.out)):gb291 ≠ gb297))
    have NB297_291:=Aside0.mk ((by rw [hg];exact Nat.ne_of_gt (blk_lt (g:=gb291) (o:=.cells #[.int .i64 a2_0,.int .i64 a2_1,.string a2_2] 24 (0,0)) (by (with_reducible repeat (first|apply zb1|apply zb2|apply zb3));exact BK291.out)):gb297 ≠ gb291))
    replace BK291:=Aside0.mk (blk_below (g:=gb291) (o:=.cells #[.int .i64 a2_0,.int .i64 a2_1,.string a2_2] 24 (0,0)) (by (with_reducible repeat (first|apply zb1|apply zb2|apply zb3));exact BK291.out) hb)
    have NB292_297:=Aside0.mk ((by rw [hg];exact Nat.ne_of_lt (blk_lt (g:=gb292) (o:=.cells #[.int .i64 0,.int .i64 0,.int .i64 0,.int .i64 0,.string (⟨#[]⟩:ByteArray),.int .i64 0,.int .i64 0,.int .i64 0,.int .i64 0,.int .i64 0,.string (⟨#[]⟩:ByteArray),.int .i64 0,.slice none 0 0,.bool false] 30 (0,0)) (by (with_reducible repeat (first|apply zb1|apply zb2|apply zb3));exact BK292.out)):gb292 ≠ gb297))
    have NB297_292:=Aside0.mk ((by rw [hg];exact Nat.ne_of_gt (blk_lt (g:=gb292) (o:=.cells #[.int .i64 0,.int .i64 0,.int .i64 0,.int .i64 0,.string (⟨#[]⟩:ByteArray),.int .i64 0,.int .i64 0,.int .i64 0,.int .i64 0,.int .i64 0,.string (⟨#[]⟩:ByteArray),.int .i64 0,.slice none 0 0,.bool false] 30 (0,0)) (by (with_reducible repeat (first|apply zb1|apply zb2|apply zb3));exact BK292.out)):gb297 ≠ gb292))
    replace BK292:=Aside0.mk (blk_below (g:=gb292) (o:=.cells #[.int .i64 0,.int .i64 0,.int .i64 0,.int .i64 0,.string (⟨#[]⟩:ByteArray),.int .i64 0,.int .i64 0,.int .i64 0,.int .i64 0,.int .i64 0,.string (⟨#[]⟩:ByteArray),.int .i64 0,.slice none 0 0,.bool false] 30 (0,0)) (by (with_reducible repeat (first|apply zb1|apply zb2|apply zb3));exact BK292.out) hb)
    clear hb hbox hg
    refine hK.out _ _ ⟨(blk_cell BK291.out 0).trans rfl,(blk_cell BK291.out 1).trans rfl,(blk_cell BK291.out 2).trans rfl⟩ (fun hHeld=>?_)
    clear hK K
    refine norm_ (a':=?_) ?_ ?_
    rotate_left
    ·show Act.put _ (some 8) _=_
     simp only [Act.put,List.setIfInBounds_toArray,List.set_cons_zero,List.set_cons_succ,i64_w,i32_w]
     rfl
    exact norm_ (by simp only [putAll,Act.put,List.setIfInBounds_toArray,List.set_cons_zero,List.set_cons_succ]) (hCont (.slice Ao11 t294.length co11,gb297) _ ⟨hHeld,(by (with_reducible repeat (first|apply zk1|apply zk2|apply zk3));exact Kd.R_mono HO296.out (fun _ hk=>hk.2)),(by (with_reducible repeat (first|apply zb1|apply zb2|apply zb3));exact BK291.out),(by (with_reducible repeat (first|apply zb1|apply zb2|apply zb3));exact BK292.out),(by (with_reducible repeat (first|apply zb1|apply zb2|apply zb3));exact BK297.out),GW297.out,GE297.out,NB291_297.out,NB297_291.out,NB292_297.out,NB297_292.out,(by repeat (first|(with_reducible first|exact HB.out|apply zl1|apply zl2|apply zl3|refine below_set ?_ GE291.out|refine below_set ?_ GE292.out|refine below_set ?_ GE297.out)|exact HB.out))⟩)
   ·skip
    refine box_step ?hg (N:=8) ?hd (cs:=#[.int .i64 0,.int .i64 0,.int .i64 0,.int .i64 0,.string (⟨#[]⟩:ByteArray),.int .i64 0,.int .i64 0,.int .i64 0,.int .i64 0,.int .i64 0,.string (⟨#[]⟩:ByteArray),.int .i64 0,.slice none 0 0,.bool false]) (t:=30) ?hr ?_;(case hd=>rfl);(case hg=>rfl);(case hr=>first|(go_simp;done)|(go_simp;rfl))
    intro gb297 hg w10 hbox hb
    have BK297:=Aside0.mk (hbox)
    have GW297:=Aside0.mk ((by rw [hg];exact (below_size (by repeat (first|(with_reducible first|exact HB.out|apply zl1|apply zl2|apply zl3|refine below_set ?_ GE291.out|refine below_set ?_ GE292.out)|exact HB.out))):w.heap.size≤gb297))
    have GE297:=Aside0.mk ((by rw [hg];exact (below_size (by repeat (first|(with_reducible first|exact HB.out|apply zl1|apply zl2|apply zl3|refine below_set ?_ GE291.out|refine below_set ?_ GE292.out)|exact HB.out))):w.heap.size≤gb297))
    replace HB:=Aside0.mk (below_step (by repeat (first|(with_reducible first|exact HB.out|apply zl1|apply zl2|apply zl3|refine below_set ?_ GE291.out|refine below_set ?_ GE292.out)|exact HB.out)) hb)
    have NB291_297:=Aside0.mk ((by rw [hg];exact Nat.ne_of_lt (blk_lt (g:=gb291) (o:=.cells #[.int .i64 a2_0,.int .i64 a2_1,.string a2_2] 24 (0,0)) (by (with_reducible repeat (first|apply zb1|apply zb2|apply zb3));exact BK291.out)):gb291 ≠ gb297))
    have NB297_291:=Aside0.mk ((by rw [hg];exact Nat.ne_of_gt (blk_lt (g:=gb291) (o:=.cells #[.int .i64 a2_0,.int .i64 a2_1,.string a2_2] 24 (0,0)) (by (with_reducible repeat (first|apply zb1|apply zb2|apply zb3));exact BK291.out)):gb297 ≠ gb291))
    replace BK291:=Aside0.mk (blk_below (g:=gb291) (o:=.cells #[.int .i64 a2_0,.int .i64 a2_1,.string a2_2] 24 (0,0)) (by (with_reducible repeat (first|apply zb1|apply zb2|apply zb3));exact BK291.out) hb)
    have NB292_297:=Aside0.mk ((by rw [hg];exact Nat.ne_of_lt (blk_lt (g:=gb292) (o:=.cells #[.int .i64 0,.int .i64 0,.int .i64 0,.int .i64 0,.string (⟨#[]⟩:ByteArray),.int .i64 0,.int .i64 0,.int .i64 0,.int .i64 0,.int .i64 0,.string (⟨#[]⟩:ByteArray),.int .i64 0,.slice none 0 0,.bool false] 30 (0,0)) (by (with_reducible repeat (first|apply zb1|apply zb2|apply zb3));exact BK292.out)):gb292 ≠ gb297))
    have NB297_292:=Aside0.mk ((by rw [hg];exact Nat.ne_of_gt (blk_lt (g:=gb292) (o:=.cells #[.int .i64 0,.int .i64 0,.int .i64 0,.int .i64 0,.string (⟨#[]⟩:ByteArray),.int .i64 0,.int .i64 0,.int .i64 0,.int .i64 0,.int .i64 0,.string (⟨#[]⟩:ByteArray),.int .i64 0,.slice none 0 0,.bool false] 30 (0,0)) (by (with_reducible repeat (first|apply zb1|apply zb2|apply zb3));exact BK292.out)):gb297 ≠ gb292))
    replace BK292:=Aside0.mk (blk_below (g:=gb292) (o:=.cells #[.int .i64 0,.int .i64 0,.int .i64 0,.int .i64 0,.string (⟨#[]⟩:ByteArray),.int .i64 0,.int .i64 0,.int .i64 0,.int .i64 0,.int .i64 0,.string (⟨#[]⟩:ByteArray),.int .i64 0,.slice none 0 0,.bool false] 30 (0,0)) (by (with_reducible repeat (first|apply zb1|apply zb2|apply zb3));exact BK292.out) hb)
    clear hb hbox hg
    refine hK.out _ _ ⟨(blk_cell BK291.out 0).trans rfl,(blk_cell BK291.out 1).trans rfl,(blk_cell BK291.out 2).trans rfl⟩ (fun hHeld=>?_)
    clear hK K
    refine norm_ (a':=?_) ?_ ?_
    rotate_left
    ·show Act.put _ (some 8) _=_
     simp only [Act.put,List.setIfInBounds_toArray,List.set_cons_zero,List.set_cons_succ,i64_w,i32_w]
     rfl
    refine one_ (i:=4) (N:=some 13) #[true,true,true,true,true,false,true,false] rfl rfl (one_of HT_.out (by kernel_rfl)) (by decide) (fun K hK=>?_)
    refine goes_ Tryd.func30 (by kernel_rfl) rfl #[.agg #[.int .i64 a2_0,.int .i64 a2_1,.string a2_2]] (by rfl) rfl rfl (by (try simp only [List.map_toArray,List.map_cons,List.map_nil]);first|done|rfl|(simp only [List.length_drop,List.length_take];rfl)|(simp (disch:=omega) only [u64_in];rfl)) ?_
    with_reducible refine (factotumref16_First.calls k a2_0 a2_1 a2_2 t293 t294 _ A4.out).mono ?_
    rintro e w11 ⟨v295,rfl,ho0,hb⟩
    refine ⟨_,rfl,?_⟩
    have HO296:=Aside0.mk (Kd.R_lower (Kd.R_newB ho0 (g:=gb291) (o:=.cells #[.int .i64 a2_0,.int .i64 a2_1,.string a2_2] 24 (0,0)) (by (with_reducible repeat (first|apply zb1|apply zb2|apply zb3));exact BK291.out)) (below_size (by repeat (first|(with_reducible first|exact HB.out|apply zl1|apply zl2|apply zl3|refine below_set ?_ GE291.out|refine below_set ?_ GE292.out|refine below_set ?_ GE297.out)|exact HB.out))))
    replace BK291:=Aside0.mk (blk_below (g:=gb291) (o:=.cells #[.int .i64 a2_0,.int .i64 a2_1,.string a2_2] 24 (0,0)) (by (with_reducible repeat (first|apply zb1|apply zb2|apply zb3));exact BK291.out) hb)
    replace BK292:=Aside0.mk (blk_below (g:=gb292) (o:=.cells #[.int .i64 0,.int .i64 0,.int .i64 0,.int .i64 0,.string (⟨#[]⟩:ByteArray),.int .i64 0,.int .i64 0,.int .i64 0,.int .i64 0,.int .i64 0,.string (⟨#[]⟩:ByteArray),.int .i64 0,.slice none 0 0,.bool false] 30 (0,0)) (by (with_reducible repeat (first|apply zb1|apply zb2|apply zb3));exact BK292.out) hb)
    replace BK297:=Aside0.mk (blk_below (g:=gb297) (o:=.cells #[.int .i64 0,.int .i64 0,.int .i64 0,.int .i64 0,.string (⟨#[]⟩:ByteArray),.int .i64 0,.int .i64 0,.int .i64 0,.int .i64 0,.int .i64 0,.string (⟨#[]⟩:ByteArray),.int .i64 0,.slice none 0 0,.bool false] 30 (0,0)) (by (with_reducible repeat (first|apply zb1|apply zb2|apply zb3));exact BK297.out) hb)
    replace HB:=Aside0.mk (below_step (by repeat (first|(with_reducible first|exact HB.out|apply zl1|apply zl2|apply zl3|refine below_set ?_ GE291.out|refine below_set ?_ GE292.out|refine below_set ?_ GE297.out)|exact HB.out)) hb)
    (try clear hb)
    (try clear hb2)
    (try clear hk)
    (try clear hi)
    (try clear ho0)
    obtain ⟨Ao12,co12,eo12⟩:=Kd.R_slice HO296.out
    (first|subst eo12|(injection eo12 with f1_ f2_ f3_;have f4_:=f1_.symm;have f5_:=f3_.symm;clear f1_ f2_ f3_;subst f4_;subst f5_))
    refine hK.out _ _ ⟨(blk_cell BK291.out 0).trans rfl,(blk_cell BK291.out 1).trans rfl,(blk_cell BK291.out 2).trans rfl⟩ (fun hHeld=>?_)
    clear hK K
    refine norm_ (a':=?_) ?_ ?_
    rotate_left
    ·show Act.put _ (some 13) _=_
     simp only [Act.put,List.setIfInBounds_toArray,List.set_cons_zero,List.set_cons_succ,i64_w,i32_w]
     rfl
    refine pure_ (i:=5) (N:=some 14) (v:=?_) (a':=?_) #[true,true,true,true,true,true,true,false] rfl rfl (any_of HT_.out (by kernel_rfl)) (fun _ _ _ h=>h) (Or.inl ⟨by rfl,?_⟩) ?_ ?_
    rotate_left
    ·intro w'
     go_simp
     with_reducible rfl
    rotate_left
    ·simp only [Act.put,List.setIfInBounds_toArray,List.set_cons_zero,List.set_cons_succ,i64_w,i32_w]
     rfl
    exact norm_ (by simp only [putAll,Act.put,List.setIfInBounds_toArray,List.set_cons_zero,List.set_cons_succ]) (hCont (.slice Ao12 t294.length co12,gb297) _ ⟨hHeld,(by (with_reducible repeat (first|apply zk1|apply zk2|apply zk3));exact Kd.R_mono HO296.out (fun _ hk=>hk.2)),(by (with_reducible repeat (first|apply zb1|apply zb2|apply zb3));exact BK291.out),(by (with_reducible repeat (first|apply zb1|apply zb2|apply zb3));exact BK292.out),(by (with_reducible repeat (first|apply zb1|apply zb2|apply zb3));exact BK297.out),GW297.out,GE297.out,NB291_297.out,NB297_291.out,NB292_297.out,NB297_292.out,(by repeat (first|(with_reducible first|exact HB.out|apply zl1|apply zl2|apply zl3|refine below_set ?_ GE291.out|refine below_set ?_ GE292.out|refine below_set ?_ GE297.out)|exact HB.out))⟩)
  rintro ⟨v295,gb297⟩ w13 ⟨hS_,h0_,h1_,h2_,h3_,h4_,h5_,h6_,h7_,h8_,h9_,h10_⟩
  have n0_:Aside0 (Kd.R k24 24 w13 w.heap.size (fun k_=>k_ ≠ gb291) v295 t294):=⟨h0_⟩
  have n1_:Aside0 (w13.heap[gb291]?=some (.cells #[.int .i64 a2_0,.int .i64 a2_1,.string a2_2] 24 (0,0))):=⟨h1_⟩
  have n2_:Aside0 (w13.heap[gb292]?=some (.cells #[.int .i64 0,.int .i64 0,.int .i64 0,.int .i64 0,.string (⟨#[]⟩:ByteArray),.int .i64 0,.int .i64 0,.int .i64 0,.int .i64 0,.int .i64 0,.string (⟨#[]⟩:ByteArray),.int .i64 0,.slice none 0 0,.bool false] 30 (0,0))):=⟨h2_⟩
  have n3_:Aside0 (w13.heap[gb297]?=some (.cells #[.int .i64 0,.int .i64 0,.int .i64 0,.int .i64 0,.string (⟨#[]⟩:ByteArray),.int .i64 0,.int .i64 0,.int .i64 0,.int .i64 0,.int .i64 0,.string (⟨#[]⟩:ByteArray),.int .i64 0,.slice none 0 0,.bool false] 30 (0,0))):=⟨h3_⟩
  have n4_:Aside0 (w.heap.size≤gb297):=⟨h4_⟩
  have n5_:Aside0 (w.heap.size≤gb297):=⟨h5_⟩
  have n6_:Aside0 (gb291 ≠ gb297):=⟨h6_⟩
  have n7_:Aside0 (gb297 ≠ gb291):=⟨h7_⟩
  have n8_:Aside0 (gb292 ≠ gb297):=⟨h8_⟩
  have n9_:Aside0 (gb297 ≠ gb292):=⟨h9_⟩
  have n10_:Aside0 (Below w.heap.size w w13):=⟨h10_⟩
  clear BK291
  clear BK292
  clear HB
  clear h0_ h1_ h2_ h3_ h4_ h5_ h6_ h7_ h8_ h9_ h10_
  have HO296:=n0_
  have BK291:=n1_
  have BK292:=n2_
  have BK297:=n3_
  have GW297:=n4_
  have GE297:=n5_
  have NB291_297:=n6_
  have NB297_291:=n7_
  have NB292_297:=n8_
  have NB297_292:=n9_
  have HB:=n10_
  clear n0_ n1_ n2_ n3_ n4_ n5_ n6_ n7_ n8_ n9_ n10_
  have hHeld:w13.cell? ⟨gb291,0,none⟩=some (.int .i64 a2_0)∧w13.cell? ⟨gb291,1,none⟩=some (.int .i64 a2_1)∧w13.cell? ⟨gb291,2,none⟩=some (.string a2_2):=hS_
  obtain ⟨Ao14,co14,eo14⟩:=Kd.R_slice HO296.out
  (first|subst eo14|(injection eo14 with f1_ f2_ f3_;have f4_:=f1_.symm;have f5_:=f3_.symm;clear f1_ f2_ f3_;subst f4_;subst f5_))
  refine norm_ (a':=?_) ?_ ?_
  rotate_left
  ·simp only [putAll,Act.put,List.setIfInBounds_toArray,List.set_cons_zero,List.set_cons_succ]
   rfl
  refine one_ (i:=7) (N:=none) #[true,true,true,true,true,true,true,true] rfl rfl (one_of HT_.out (by kernel_rfl)) (by decide) (fun K hK=>?_)
  have hs15:w13.cell? ⟨gb297,0,none⟩=some (.int .i64 0):=(blk_cell BK297.out 0).trans rfl
  have hfs15:=blk_frozen BK297.out 0
  have hns15_0:=NB291_297.out
  have hns15_1:=NB292_297.out
  have hms15_0:=NB297_291.out
  have hms15_1:=NB297_292.out
  have hs16:w13.cell? ⟨gb297,1,none⟩=some (.int .i64 0):=(blk_cell BK297.out 1).trans rfl
  have hfs16:=blk_frozen BK297.out 1
  have hns16_0:=NB291_297.out
  have hns16_1:=NB292_297.out
  have hms16_0:=NB297_291.out
  have hms16_1:=NB297_292.out
  have hs17:w13.cell? ⟨gb297,2,none⟩=some (.int .i64 0):=(blk_cell BK297.out 2).trans rfl
  have hfs17:=blk_frozen BK297.out 2
  have hns17_0:=NB291_297.out
  have hns17_1:=NB292_297.out
  have hms17_0:=NB297_291.out
  have hms17_1:=NB297_292.out
  have hs18:w13.cell? ⟨gb297,3,none⟩=some (.int .i64 0):=(blk_cell BK297.out 3).trans rfl
  have hfs18:=blk_frozen BK297.out 3
  have hns18_0:=NB291_297.out
  have hns18_1:=NB292_297.out
  have hms18_0:=NB297_291.out
  have hms18_1:=NB297_292.out
  have hs19:w13.cell? ⟨gb297,4,none⟩=some (.string (⟨#[]⟩:ByteArray)):=(blk_cell BK297.out 4).trans rfl
  have hfs19:=blk_frozen BK297.out 4
  have hns19_0:=NB291_297.out
  have hns19_1:=NB292_297.out
  have hms19_0:=NB297_291.out
  have hms19_1:=NB297_292.out
  have hs20:w13.cell? ⟨gb297,5,none⟩=some (.int .i64 0):=(blk_cell BK297.out 5).trans rfl
  have hfs20:=blk_frozen BK297.out 5
  have hns20_0:=NB291_297.out
  have hns20_1:=NB292_297.out
  have hms20_0:=NB297_291.out
  have hms20_1:=NB297_292.out
  have hs21:w13.cell? ⟨gb297,6,none⟩=some (.int .i64 0):=(blk_cell BK297.out 6).trans rfl
  have hfs21:=blk_frozen BK297.out 6
  have hns21_0:=NB291_297.out
  have hns21_1:=NB292_297.out
  have hms21_0:=NB297_291.out
  have hms21_1:=NB297_292.out
  have hs22:w13.cell? ⟨gb297,7,none⟩=some (.int .i64 0):=(blk_cell BK297.out 7).trans rfl
  have hfs22:=blk_frozen BK297.out 7
  have hns22_0:=NB291_297.out
  have hns22_1:=NB292_297.out
  have hms22_0:=NB297_291.out
  have hms22_1:=NB297_292.out
  have hs23:w13.cell? ⟨gb297,8,none⟩=some (.int .i64 0):=(blk_cell BK297.out 8).trans rfl
  have hfs23:=blk_frozen BK297.out 8
  have hns23_0:=NB291_297.out
  have hns23_1:=NB292_297.out
  have hms23_0:=NB297_291.out
  have hms23_1:=NB297_292.out
  have hs24:w13.cell? ⟨gb297,9,none⟩=some (.int .i64 0):=(blk_cell BK297.out 9).trans rfl
  have hfs24:=blk_frozen BK297.out 9
  have hns24_0:=NB291_297.out
  have hns24_1:=NB292_297.out
  have hms24_0:=NB297_291.out
  have hms24_1:=NB297_292.out
  have hs25:w13.cell? ⟨gb297,10,none⟩=some (.string (⟨#[]⟩:ByteArray)):=(blk_cell BK297.out 10).trans rfl
  have hfs25:=blk_frozen BK297.out 10
  have hns25_0:=NB291_297.out
  have hns25_1:=NB292_297.out
  have hms25_0:=NB297_291.out
  have hms25_1:=NB297_292.out
  have hs26:w13.cell? ⟨gb297,11,none⟩=some (.int .i64 0):=(blk_cell BK297.out 11).trans rfl
  have hfs26:=blk_frozen BK297.out 11
  have hns26_0:=NB291_297.out
  have hns26_1:=NB292_297.out
  have hms26_0:=NB297_291.out
  have hms26_1:=NB297_292.out
  have hs27:w13.cell? ⟨gb297,12,none⟩=some (.slice none 0 0):=(blk_cell BK297.out 12).trans rfl
  have hfs27:=blk_frozen BK297.out 12
  have hns27_0:=NB291_297.out
  have hns27_1:=NB292_297.out
  have hms27_0:=NB297_291.out
  have hms27_1:=NB297_292.out
  have hs28:w13.cell? ⟨gb297,13,none⟩=some (.bool false):=(blk_cell BK297.out 13).trans rfl
  have hfs28:=blk_frozen BK297.out 13
  have hns28_0:=NB291_297.out
  have hns28_1:=NB292_297.out
  have hms28_0:=NB297_291.out
  have hms28_1:=NB297_292.out
  refine skip_ (w1:=?_) (by rfl) rfl ?_ ?_
  rotate_left
  ·go_simp
   rfl
  refine hK.out _ _ ⟨((cell_far (p:=⟨gb297,_,none⟩) NB291_297.out _).trans (((cell_far (p:=⟨gb297,_,none⟩) NB291_297.out _).trans (((cell_far (p:=⟨gb297,_,none⟩) NB291_297.out _).trans (((cell_far (p:=⟨gb297,_,none⟩) NB291_297.out _).trans (((cell_far (p:=⟨gb297,_,none⟩) NB291_297.out _).trans (((cell_far (p:=⟨gb297,_,none⟩) NB291_297.out _).trans (((cell_far (p:=⟨gb297,_,none⟩) NB291_297.out _).trans (((cell_far (p:=⟨gb297,_,none⟩) NB291_297.out _).trans (((cell_far (p:=⟨gb297,_,none⟩) NB291_297.out _).trans (((cell_far (p:=⟨gb297,_,none⟩) NB291_297.out _).trans (((cell_far (p:=⟨gb297,_,none⟩) NB291_297.out _).trans (((cell_far (p:=⟨gb297,_,none⟩) NB291_297.out _).trans (((cell_far (p:=⟨gb297,_,none⟩) NB291_297.out _).trans (((cell_far (p:=⟨gb297,_,none⟩) NB291_297.out _).trans (hHeld.1)))))))))))))))))))))))))))),((cell_far (p:=⟨gb297,_,none⟩) NB291_297.out _).trans (((cell_far (p:=⟨gb297,_,none⟩) NB291_297.out _).trans (((cell_far (p:=⟨gb297,_,none⟩) NB291_297.out _).trans (((cell_far (p:=⟨gb297,_,none⟩) NB291_297.out _).trans (((cell_far (p:=⟨gb297,_,none⟩) NB291_297.out _).trans (((cell_far (p:=⟨gb297,_,none⟩) NB291_297.out _).trans (((cell_far (p:=⟨gb297,_,none⟩) NB291_297.out _).trans (((cell_far (p:=⟨gb297,_,none⟩) NB291_297.out _).trans (((cell_far (p:=⟨gb297,_,none⟩) NB291_297.out _).trans (((cell_far (p:=⟨gb297,_,none⟩) NB291_297.out _).trans (((cell_far (p:=⟨gb297,_,none⟩) NB291_297.out _).trans (((cell_far (p:=⟨gb297,_,none⟩) NB291_297.out _).trans (((cell_far (p:=⟨gb297,_,none⟩) NB291_297.out _).trans (((cell_far (p:=⟨gb297,_,none⟩) NB291_297.out _).trans (hHeld.2.1)))))))))))))))))))))))))))),((cell_far (p:=⟨gb297,_,none⟩) NB291_297.out _).trans (((cell_far (p:=⟨gb297,_,none⟩) NB291_297.out _).trans (((cell_far (p:=⟨gb297,_,none⟩) NB291_297.out _).trans (((cell_far (p:=⟨gb297,_,none⟩) NB291_297.out _).trans (((cell_far (p:=⟨gb297,_,none⟩) NB291_297.out _).trans (((cell_far (p:=⟨gb297,_,none⟩) NB291_297.out _).trans (((cell_far (p:=⟨gb297,_,none⟩) NB291_297.out _).trans (((cell_far (p:=⟨gb297,_,none⟩) NB291_297.out _).trans (((cell_far (p:=⟨gb297,_,none⟩) NB291_297.out _).trans (((cell_far (p:=⟨gb297,_,none⟩) NB291_297.out _).trans (((cell_far (p:=⟨gb297,_,none⟩) NB291_297.out _).trans (((cell_far (p:=⟨gb297,_,none⟩) NB291_297.out _).trans (((cell_far (p:=⟨gb297,_,none⟩) NB291_297.out _).trans (((cell_far (p:=⟨gb297,_,none⟩) NB291_297.out _).trans (hHeld.2.2))))))))))))))))))))))))))))⟩ (fun hHeld=>?_)
  clear hK K
  refine done_ (done_of HT_.out (by kernel_rfl)) ?_
  have hnb29:=NB297_291.out
  have hnc29:=NB291_297.out
  have hnb30:=NB297_292.out
  have hnc30:=NB292_297.out
  have hcz31_0:w13.cell? ⟨gb297,0,none⟩=some (.int .i64 0):=(blk_cell BK297.out 0).trans rfl
  have hcz31_1:w13.cell? ⟨gb297,1,none⟩=some (.int .i64 0):=(blk_cell BK297.out 1).trans rfl
  have hcz31_2:w13.cell? ⟨gb297,2,none⟩=some (.int .i64 0):=(blk_cell BK297.out 2).trans rfl
  have hcz31_3:w13.cell? ⟨gb297,3,none⟩=some (.int .i64 0):=(blk_cell BK297.out 3).trans rfl
  have hcz31_4:w13.cell? ⟨gb297,4,none⟩=some (.string (⟨#[]⟩:ByteArray)):=(blk_cell BK297.out 4).trans rfl
  have hcz31_5:w13.cell? ⟨gb297,5,none⟩=some (.int .i64 0):=(blk_cell BK297.out 5).trans rfl
  have hcz31_6:w13.cell? ⟨gb297,6,none⟩=some (.int .i64 0):=(blk_cell BK297.out 6).trans rfl
  have hcz31_7:w13.cell? ⟨gb297,7,none⟩=some (.int .i64 0):=(blk_cell BK297.out 7).trans rfl
  have hcz31_8:w13.cell? ⟨gb297,8,none⟩=some (.int .i64 0):=(blk_cell BK297.out 8).trans rfl
  have hcz31_9:w13.cell? ⟨gb297,9,none⟩=some (.int .i64 0):=(blk_cell BK297.out 9).trans rfl
  have hcz31_10:w13.cell? ⟨gb297,10,none⟩=some (.string (⟨#[]⟩:ByteArray)):=(blk_cell BK297.out 10).trans rfl
  have hcz31_11:w13.cell? ⟨gb297,11,none⟩=some (.int .i64 0):=(blk_cell BK297.out 11).trans rfl
  have hcz31_12:w13.cell? ⟨gb297,12,none⟩=some (.slice none 0 0):=(blk_cell BK297.out 12).trans rfl
  have hcz31_13:w13.cell? ⟨gb297,13,none⟩=some (.bool false):=(blk_cell BK297.out 13).trans rfl
  have hfz31_0:=blk_frozen BK297.out 0
  have hfz31_1:=blk_frozen BK297.out 1
  have hfz31_2:=blk_frozen BK297.out 2
  have hfz31_3:=blk_frozen BK297.out 3
  have hfz31_4:=blk_frozen BK297.out 4
  have hfz31_5:=blk_frozen BK297.out 5
  have hfz31_6:=blk_frozen BK297.out 6
  have hfz31_7:=blk_frozen BK297.out 7
  have hfz31_8:=blk_frozen BK297.out 8
  have hfz31_9:=blk_frozen BK297.out 9
  have hfz31_10:=blk_frozen BK297.out 10
  have hfz31_11:=blk_frozen BK297.out 11
  have hfz31_12:=blk_frozen BK297.out 12
  have hfz31_13:=blk_frozen BK297.out 13
  try go_wp2_with (first|((with_reducible refine gate_callee (f:=18) rfl ?_);refine goesL_ (some 16) rfl rfl Tryd.func18 (by kernel_rfl) rfl #[.agg #[.int .i64 a0,.int .i64 a1,.int .i64 a2_0,.int .i64 a2_1,.string a2_2,.int .i64 1,.int .i64 0,.int .i64 0,.int .i64 0,.int .i64 0,.string (⟨#[]⟩:ByteArray),.int .i64 t293,.slice Ao14 t294.length co14,.bool false]] rfl (by (try simp only [List.map_toArray,List.map_cons,List.map_nil]);first|done|rfl|(simp only [List.length_drop,List.length_take];rfl)|(simp (disch:=omega) only [u64_in];rfl)) ?_;(with_reducible refine (factotumref21_Right.calls k a0 a1 a2_0 a2_1 a2_2 1 0 0 0 0 (⟨#[]⟩:ByteArray) t293 _ _ t294 false true _ ?side1 ?side2 A5.out).mono ?_);(case side1=>refine (Kd.R_reads' (e:=24) (base:=w.heap.size) (ok:=fun k_=>k_ ≠ gb291) (n:=t294.length) (c:=co14) ?_).2.2;exact (by (with_reducible repeat (first|apply zk1|apply zk2|apply zk3));exact (Kd.R_mono (Kd.R_far (p:=⟨gb297,13,none⟩) (Kd.R_far (p:=⟨gb297,12,none⟩) (Kd.R_far (p:=⟨gb297,11,none⟩) (Kd.R_far (p:=⟨gb297,10,none⟩) (Kd.R_far (p:=⟨gb297,9,none⟩) (Kd.R_far (p:=⟨gb297,8,none⟩) (Kd.R_far (p:=⟨gb297,7,none⟩) (Kd.R_far (p:=⟨gb297,6,none⟩) (Kd.R_far (p:=⟨gb297,5,none⟩) (Kd.R_far (p:=⟨gb297,4,none⟩) (Kd.R_far (p:=⟨gb297,3,none⟩) (Kd.R_far (p:=⟨gb297,2,none⟩) (Kd.R_far (p:=⟨gb297,1,none⟩) (Kd.R_far (p:=⟨gb297,0,none⟩) (Kd.R_types HO296.out BK297.out (by decide)) (fun _ hk=>hk.2) (.int .i64 a0)) (fun _ hk=>hk.2) (.int .i64 a1)) (fun _ hk=>hk.2) (.int .i64 a2_0)) (fun _ hk=>hk.2) (.int .i64 a2_1)) (fun _ hk=>hk.2) (.string a2_2)) (fun _ hk=>hk.2) (.int .i64 1)) (fun _ hk=>hk.2) (.int .i64 0)) (fun _ hk=>hk.2) (.int .i64 0)) (fun _ hk=>hk.2) (.int .i64 0)) (fun _ hk=>hk.2) (.int .i64 0)) (fun _ hk=>hk.2) (.string (⟨#[]⟩:ByteArray))) (fun _ hk=>hk.2) (.int .i64 t293)) (fun _ hk=>hk.2) (.slice Ao14 t294.length co14)) (fun _ hk=>hk.2) (.bool false)) (fun _ h_=>h_.1))));(case side2=>exact (Kd.R_reads' HO296.out).2.1);rintro e w32 ⟨rfl,hb⟩;refine ⟨_,rfl,?_⟩;replace HO296:=Aside0.mk (Kd.R_below (by (with_reducible repeat (first|apply zk1|apply zk2|apply zk3));exact (Kd.R_mono (Kd.R_far (p:=⟨gb297,13,none⟩) (Kd.R_far (p:=⟨gb297,12,none⟩) (Kd.R_far (p:=⟨gb297,11,none⟩) (Kd.R_far (p:=⟨gb297,10,none⟩) (Kd.R_far (p:=⟨gb297,9,none⟩) (Kd.R_far (p:=⟨gb297,8,none⟩) (Kd.R_far (p:=⟨gb297,7,none⟩) (Kd.R_far (p:=⟨gb297,6,none⟩) (Kd.R_far (p:=⟨gb297,5,none⟩) (Kd.R_far (p:=⟨gb297,4,none⟩) (Kd.R_far (p:=⟨gb297,3,none⟩) (Kd.R_far (p:=⟨gb297,2,none⟩) (Kd.R_far (p:=⟨gb297,1,none⟩) (Kd.R_far (p:=⟨gb297,0,none⟩) (Kd.R_types HO296.out BK297.out (by decide)) (fun _ hk=>hk.2) (.int .i64 a0)) (fun _ hk=>hk.2) (.int .i64 a1)) (fun _ hk=>hk.2) (.int .i64 a2_0)) (fun _ hk=>hk.2) (.int .i64 a2_1)) (fun _ hk=>hk.2) (.string a2_2)) (fun _ hk=>hk.2) (.int .i64 1)) (fun _ hk=>hk.2) (.int .i64 0)) (fun _ hk=>hk.2) (.int .i64 0)) (fun _ hk=>hk.2) (.int .i64 0)) (fun _ hk=>hk.2) (.int .i64 0)) (fun _ hk=>hk.2) (.string (⟨#[]⟩:ByteArray))) (fun _ hk=>hk.2) (.int .i64 t293)) (fun _ hk=>hk.2) (.slice Ao14 t294.length co14)) (fun _ hk=>hk.2) (.bool false)) (fun _ h_=>h_.1))) hb);replace BK291:=Aside0.mk (blk_below (g:=gb291) (o:=.cells #[.int .i64 a2_0,.int .i64 a2_1,.string a2_2] 24 (0,0)) (by (with_reducible repeat (first|apply zb1|apply zb2|apply zb3));refine blk_far ?_ NB291_297.out _;(with_reducible repeat (first|apply zb1|apply zb2|apply zb3));refine blk_far ?_ NB291_297.out _;(with_reducible repeat (first|apply zb1|apply zb2|apply zb3));refine blk_far ?_ NB291_297.out _;(with_reducible repeat (first|apply zb1|apply zb2|apply zb3));refine blk_far ?_ NB291_297.out _;(with_reducible repeat (first|apply zb1|apply zb2|apply zb3));refine blk_far ?_ NB291_297.out _;(with_reducible repeat (first|apply zb1|apply zb2|apply zb3));refine blk_far ?_ NB291_297.out _;(with_reducible repeat (first|apply zb1|apply zb2|apply zb3));refine blk_far ?_ NB291_297.out _;(with_reducible repeat (first|apply zb1|apply zb2|apply zb3));refine blk_far ?_ NB291_297.out _;(with_reducible repeat (first|apply zb1|apply zb2|apply zb3));refine blk_far ?_ NB291_297.out _;(with_reducible repeat (first|apply zb1|apply zb2|apply zb3));refine blk_far ?_ NB291_297.out _;(with_reducible repeat (first|apply zb1|apply zb2|apply zb3));refine blk_far ?_ NB291_297.out _;(with_reducible repeat (first|apply zb1|apply zb2|apply zb3));refine blk_far ?_ NB291_297.out _;(with_reducible repeat (first|apply zb1|apply zb2|apply zb3));refine blk_far ?_ NB291_297.out _;(with_reducible repeat (first|apply zb1|apply zb2|apply zb3));refine blk_far ?_ NB291_297.out _;(with_reducible repeat (first|apply zb1|apply zb2|apply zb3));exact BK291.out) hb);replace BK292:=Aside0.mk (blk_below (g:=gb292) (o:=.cells #[.int .i64 0,.int .i64 0,.int .i64 0,.int .i64 0,.string (⟨#[]⟩:ByteArray),.int .i64 0,.int .i64 0,.int .i64 0,.int .i64 0,.int .i64 0,.string (⟨#[]⟩:ByteArray),.int .i64 0,.slice none 0 0,.bool false] 30 (0,0)) (by (with_reducible repeat (first|apply zb1|apply zb2|apply zb3));refine blk_far ?_ NB292_297.out _;(with_reducible repeat (first|apply zb1|apply zb2|apply zb3));refine blk_far ?_ NB292_297.out _;(with_reducible repeat (first|apply zb1|apply zb2|apply zb3));refine blk_far ?_ NB292_297.out _;(with_reducible repeat (first|apply zb1|apply zb2|apply zb3));refine blk_far ?_ NB292_297.out _;(with_reducible repeat (first|apply zb1|apply zb2|apply zb3));refine blk_far ?_ NB292_297.out _;(with_reducible repeat (first|apply zb1|apply zb2|apply zb3));refine blk_far ?_ NB292_297.out _;(with_reducible repeat (first|apply zb1|apply zb2|apply zb3));refine blk_far ?_ NB292_297.out _;(with_reducible repeat (first|apply zb1|apply zb2|apply zb3));refine blk_far ?_ NB292_297.out _;(with_reducible repeat (first|apply zb1|apply zb2|apply zb3));refine blk_far ?_ NB292_297.out _;(with_reducible repeat (first|apply zb1|apply zb2|apply zb3));refine blk_far ?_ NB292_297.out _;(with_reducible repeat (first|apply zb1|apply zb2|apply zb3));refine blk_far ?_ NB292_297.out _;(with_reducible repeat (first|apply zb1|apply zb2|apply zb3));refine blk_far ?_ NB292_297.out _;(with_reducible repeat (first|apply zb1|apply zb2|apply zb3));refine blk_far ?_ NB292_297.out _;(with_reducible repeat (first|apply zb1|apply zb2|apply zb3));refine blk_far ?_ NB292_297.out _;(with_reducible repeat (first|apply zb1|apply zb2|apply zb3));exact BK292.out) hb);replace BK297:=Aside0.mk (blk_below (g:=gb297) (o:=.cells #[.int .i64 a0,.int .i64 a1,.int .i64 a2_0,.int .i64 a2_1,.string a2_2,.int .i64 1,.int .i64 0,.int .i64 0,.int .i64 0,.int .i64 0,.string (⟨#[]⟩:ByteArray),.int .i64 t293,.slice Ao14 t294.length co14,.bool false] 30 (0,0)) (by (with_reducible repeat (first|apply zb1|apply zb2|apply zb3));refine blk_put (cs:=#[.int .i64 a0,.int .i64 a1,.int .i64 a2_0,.int .i64 a2_1,.string a2_2,.int .i64 1,.int .i64 0,.int .i64 0,.int .i64 0,.int .i64 0,.string (⟨#[]⟩:ByteArray),.int .i64 t293,.slice Ao14 t294.length co14,.bool false]) ?_ 13 _ rfl;(with_reducible repeat (first|apply zb1|apply zb2|apply zb3));refine blk_put (cs:=#[.int .i64 a0,.int .i64 a1,.int .i64 a2_0,.int .i64 a2_1,.string a2_2,.int .i64 1,.int .i64 0,.int .i64 0,.int .i64 0,.int .i64 0,.string (⟨#[]⟩:ByteArray),.int .i64 t293,.slice none 0 0,.bool false]) ?_ 12 _ rfl;(with_reducible repeat (first|apply zb1|apply zb2|apply zb3));refine blk_put (cs:=#[.int .i64 a0,.int .i64 a1,.int .i64 a2_0,.int .i64 a2_1,.string a2_2,.int .i64 1,.int .i64 0,.int .i64 0,.int .i64 0,.int .i64 0,.string (⟨#[]⟩:ByteArray),.int .i64 0,.slice none 0 0,.bool false]) ?_ 11 _ rfl;(with_reducible repeat (first|apply zb1|apply zb2|apply zb3));refine blk_put (cs:=#[.int .i64 a0,.int .i64 a1,.int .i64 a2_0,.int .i64 a2_1,.string a2_2,.int .i64 1,.int .i64 0,.int .i64 0,.int .i64 0,.int .i64 0,.string (⟨#[]⟩:ByteArray),.int .i64 0,.slice none 0 0,.bool false]) ?_ 10 _ rfl;(with_reducible repeat (first|apply zb1|apply zb2|apply zb3));refine blk_put (cs:=#[.int .i64 a0,.int .i64 a1,.int .i64 a2_0,.int .i64 a2_1,.string a2_2,.int .i64 1,.int .i64 0,.int .i64 0,.int .i64 0,.int .i64 0,.string (⟨#[]⟩:ByteArray),.int .i64 0,.slice none 0 0,.bool false]) ?_ 9 _ rfl;(with_reducible repeat (first|apply zb1|apply zb2|apply zb3));refine blk_put (cs:=#[.int .i64 a0,.int .i64 a1,.int .i64 a2_0,.int .i64 a2_1,.string a2_2,.int .i64 1,.int .i64 0,.int .i64 0,.int .i64 0,.int .i64 0,.string (⟨#[]⟩:ByteArray),.int .i64 0,.slice none 0 0,.bool false]) ?_ 8 _ rfl;(with_reducible repeat (first|apply zb1|apply zb2|apply zb3));refine blk_put (cs:=#[.int .i64 a0,.int .i64 a1,.int .i64 a2_0,.int .i64 a2_1,.string a2_2,.int .i64 1,.int .i64 0,.int .i64 0,.int .i64 0,.int .i64 0,.string (⟨#[]⟩:ByteArray),.int .i64 0,.slice none 0 0,.bool false]) ?_ 7 _ rfl;(with_reducible repeat (first|apply zb1|apply zb2|apply zb3));refine blk_put (cs:=#[.int .i64 a0,.int .i64 a1,.int .i64 a2_0,.int .i64 a2_1,.string a2_2,.int .i64 1,.int .i64 0,.int .i64 0,.int .i64 0,.int .i64 0,.string (⟨#[]⟩:ByteArray),.int .i64 0,.slice none 0 0,.bool false]) ?_ 6 _ rfl;(with_reducible repeat (first|apply zb1|apply zb2|apply zb3));refine blk_put (cs:=#[.int .i64 a0,.int .i64 a1,.int .i64 a2_0,.int .i64 a2_1,.string a2_2,.int .i64 0,.int .i64 0,.int .i64 0,.int .i64 0,.int .i64 0,.string (⟨#[]⟩:ByteArray),.int .i64 0,.slice none 0 0,.bool false]) ?_ 5 _ rfl;(with_reducible repeat (first|apply zb1|apply zb2|apply zb3));refine blk_put (cs:=#[.int .i64 a0,.int .i64 a1,.int .i64 a2_0,.int .i64 a2_1,.string (⟨#[]⟩:ByteArray),.int .i64 0,.int .i64 0,.int .i64 0,.int .i64 0,.int .i64 0,.string (⟨#[]⟩:ByteArray),.int .i64 0,.slice none 0 0,.bool false]) ?_ 4 _ rfl;(with_reducible repeat (first|apply zb1|apply zb2|apply zb3));refine blk_put (cs:=#[.int .i64 a0,.int .i64 a1,.int .i64 a2_0,.int .i64 0,.string (⟨#[]⟩:ByteArray),.int .i64 0,.int .i64 0,.int .i64 0,.int .i64 0,.int .i64 0,.string (⟨#[]⟩:ByteArray),.int .i64 0,.slice none 0 0,.bool false]) ?_ 3 _ rfl;(with_reducible repeat (first|apply zb1|apply zb2|apply zb3));refine blk_put (cs:=#[.int .i64 a0,.int .i64 a1,.int .i64 0,.int .i64 0,.string (⟨#[]⟩:ByteArray),.int .i64 0,.int .i64 0,.int .i64 0,.int .i64 0,.int .i64 0,.string (⟨#[]⟩:ByteArray),.int .i64 0,.slice none 0 0,.bool false]) ?_ 2 _ rfl;(with_reducible repeat (first|apply zb1|apply zb2|apply zb3));refine blk_put (cs:=#[.int .i64 a0,.int .i64 0,.int .i64 0,.int .i64 0,.string (⟨#[]⟩:ByteArray),.int .i64 0,.int .i64 0,.int .i64 0,.int .i64 0,.int .i64 0,.string (⟨#[]⟩:ByteArray),.int .i64 0,.slice none 0 0,.bool false]) ?_ 1 _ rfl;(with_reducible repeat (first|apply zb1|apply zb2|apply zb3));refine blk_put (cs:=#[.int .i64 0,.int .i64 0,.int .i64 0,.int .i64 0,.string (⟨#[]⟩:ByteArray),.int .i64 0,.int .i64 0,.int .i64 0,.int .i64 0,.int .i64 0,.string (⟨#[]⟩:ByteArray),.int .i64 0,.slice none 0 0,.bool false]) ?_ 0 _ rfl;(with_reducible repeat (first|apply zb1|apply zb2|apply zb3));exact BK297.out) hb);replace HB:=Aside0.mk (below_step (by repeat (first|(with_reducible first|exact HB.out|apply zl1|apply zl2|apply zl3|refine below_set ?_ GE291.out|refine below_set ?_ GE292.out|refine below_set ?_ GE297.out)|exact HB.out)) hb);(try clear hb);have hcz33_0:w32.cell? ⟨gb297,0,none⟩=some (.int .i64 a0):=(blk_cell BK297.out 0).trans rfl;have hcz33_1:w32.cell? ⟨gb297,1,none⟩=some (.int .i64 a1):=(blk_cell BK297.out 1).trans rfl;have hcz33_2:w32.cell? ⟨gb297,2,none⟩=some (.int .i64 a2_0):=(blk_cell BK297.out 2).trans rfl;have hcz33_3:w32.cell? ⟨gb297,3,none⟩=some (.int .i64 a2_1):=(blk_cell BK297.out 3).trans rfl;have hcz33_4:w32.cell? ⟨gb297,4,none⟩=some (.string a2_2):=(blk_cell BK297.out 4).trans rfl;have hcz33_5:w32.cell? ⟨gb297,5,none⟩=some (.int .i64 1):=(blk_cell BK297.out 5).trans rfl;have hcz33_6:w32.cell? ⟨gb297,6,none⟩=some (.int .i64 0):=(blk_cell BK297.out 6).trans rfl;have hcz33_7:w32.cell? ⟨gb297,7,none⟩=some (.int .i64 0):=(blk_cell BK297.out 7).trans rfl;have hcz33_8:w32.cell? ⟨gb297,8,none⟩=some (.int .i64 0):=(blk_cell BK297.out 8).trans rfl;have hcz33_9:w32.cell? ⟨gb297,9,none⟩=some (.int .i64 0):=(blk_cell BK297.out 9).trans rfl;have hcz33_10:w32.cell? ⟨gb297,10,none⟩=some (.string (⟨#[]⟩:ByteArray)):=(blk_cell BK297.out 10).trans rfl;have hcz33_11:w32.cell? ⟨gb297,11,none⟩=some (.int .i64 t293):=(blk_cell BK297.out 11).trans rfl;have hcz33_12:w32.cell? ⟨gb297,12,none⟩=some (.slice Ao14 t294.length co14):=(blk_cell BK297.out 12).trans rfl;have hcz33_13:w32.cell? ⟨gb297,13,none⟩=some (.bool false):=(blk_cell BK297.out 13).trans rfl;have hfz33_0:=blk_frozen BK297.out 0;have hfz33_1:=blk_frozen BK297.out 1;have hfz33_2:=blk_frozen BK297.out 2;have hfz33_3:=blk_frozen BK297.out 3;have hfz33_4:=blk_frozen BK297.out 4;have hfz33_5:=blk_frozen BK297.out 5;have hfz33_6:=blk_frozen BK297.out 6;have hfz33_7:=blk_frozen BK297.out 7;have hfz33_8:=blk_frozen BK297.out 8;have hfz33_9:=blk_frozen BK297.out 9;have hfz33_10:=blk_frozen BK297.out 10;have hfz33_11:=blk_frozen BK297.out 11;have hfz33_12:=blk_frozen BK297.out 12;have hfz33_13:=blk_frozen BK297.out 13;have hnb34:=NB292_291.out;have hnc34:=NB291_292.out;have hcz35_0:w32.cell? ⟨gb292,0,none⟩=some (.int .i64 0):=(blk_cell BK292.out 0).trans rfl;have hcz35_1:w32.cell? ⟨gb292,1,none⟩=some (.int .i64 0):=(blk_cell BK292.out 1).trans rfl;have hcz35_2:w32.cell? ⟨gb292,2,none⟩=some (.int .i64 0):=(blk_cell BK292.out 2).trans rfl;have hcz35_3:w32.cell? ⟨gb292,3,none⟩=some (.int .i64 0):=(blk_cell BK292.out 3).trans rfl;have hcz35_4:w32.cell? ⟨gb292,4,none⟩=some (.string (⟨#[]⟩:ByteArray)):=(blk_cell BK292.out 4).trans rfl;have hcz35_5:w32.cell? ⟨gb292,5,none⟩=some (.int .i64 0):=(blk_cell BK292.out 5).trans rfl;have hcz35_6:w32.cell? ⟨gb292,6,none⟩=some (.int .i64 0):=(blk_cell BK292.out 6).trans rfl;have hcz35_7:w32.cell? ⟨gb292,7,none⟩=some (.int .i64 0):=(blk_cell BK292.out 7).trans rfl;have hcz35_8:w32.cell? ⟨gb292,8,none⟩=some (.int .i64 0):=(blk_cell BK292.out 8).trans rfl;have hcz35_9:w32.cell? ⟨gb292,9,none⟩=some (.int .i64 0):=(blk_cell BK292.out 9).trans rfl;have hcz35_10:w32.cell? ⟨gb292,10,none⟩=some (.string (⟨#[]⟩:ByteArray)):=(blk_cell BK292.out 10).trans rfl;have hcz35_11:w32.cell? ⟨gb292,11,none⟩=some (.int .i64 0):=(blk_cell BK292.out 11).trans rfl;have hcz35_12:w32.cell? ⟨gb292,12,none⟩=some (.slice none 0 0):=(blk_cell BK292.out 12).trans rfl;have hcz35_13:w32.cell? ⟨gb292,13,none⟩=some (.bool false):=(blk_cell BK292.out 13).trans rfl;have hfz35_0:=blk_frozen BK292.out 0;have hfz35_1:=blk_frozen BK292.out 1;have hfz35_2:=blk_frozen BK292.out 2;have hfz35_3:=blk_frozen BK292.out 3;have hfz35_4:=blk_frozen BK292.out 4;have hfz35_5:=blk_frozen BK292.out 5;have hfz35_6:=blk_frozen BK292.out 6;have hfz35_7:=blk_frozen BK292.out 7;have hfz35_8:=blk_frozen BK292.out 8;have hfz35_9:=blk_frozen BK292.out 9;have hfz35_10:=blk_frozen BK292.out 10;have hfz35_11:=blk_frozen BK292.out 11;have hfz35_12:=blk_frozen BK292.out 12;have hfz35_13:=blk_frozen BK292.out 13))
  refine bodyPost_ret (results_ct rfl _ _ gb292 30 #[.int .i64 a0,.int .i64 a1,.int .i64 a2_0,.int .i64 a2_1,.string a2_2,.int .i64 1,.int .i64 0,.int .i64 0,.int .i64 0,.int .i64 0,.string (⟨#[]⟩:ByteArray),.int .i64 t293,.slice Ao14 t294.length co14,.bool false] (0,0) _ rfl (by (with_reducible repeat (first|apply zb1|apply zb2|apply zb3));refine blk_put (cs:=#[.int .i64 a0,.int .i64 a1,.int .i64 a2_0,.int .i64 a2_1,.string a2_2,.int .i64 1,.int .i64 0,.int .i64 0,.int .i64 0,.int .i64 0,.string (⟨#[]⟩:ByteArray),.int .i64 t293,.slice Ao14 t294.length co14,.bool false]) ?_ 13 _ rfl;(with_reducible repeat (first|apply zb1|apply zb2|apply zb3));refine blk_put (cs:=#[.int .i64 a0,.int .i64 a1,.int .i64 a2_0,.int .i64 a2_1,.string a2_2,.int .i64 1,.int .i64 0,.int .i64 0,.int .i64 0,.int .i64 0,.string (⟨#[]⟩:ByteArray),.int .i64 t293,.slice none 0 0,.bool false]) ?_ 12 _ rfl;(with_reducible repeat (first|apply zb1|apply zb2|apply zb3));refine blk_put (cs:=#[.int .i64 a0,.int .i64 a1,.int .i64 a2_0,.int .i64 a2_1,.string a2_2,.int .i64 1,.int .i64 0,.int .i64 0,.int .i64 0,.int .i64 0,.string (⟨#[]⟩:ByteArray),.int .i64 0,.slice none 0 0,.bool false]) ?_ 11 _ rfl;(with_reducible repeat (first|apply zb1|apply zb2|apply zb3));refine blk_put (cs:=#[.int .i64 a0,.int .i64 a1,.int .i64 a2_0,.int .i64 a2_1,.string a2_2,.int .i64 1,.int .i64 0,.int .i64 0,.int .i64 0,.int .i64 0,.string (⟨#[]⟩:ByteArray),.int .i64 0,.slice none 0 0,.bool false]) ?_ 10 _ rfl;(with_reducible repeat (first|apply zb1|apply zb2|apply zb3));refine blk_put (cs:=#[.int .i64 a0,.int .i64 a1,.int .i64 a2_0,.int .i64 a2_1,.string a2_2,.int .i64 1,.int .i64 0,.int .i64 0,.int .i64 0,.int .i64 0,.string (⟨#[]⟩:ByteArray),.int .i64 0,.slice none 0 0,.bool false]) ?_ 9 _ rfl;(with_reducible repeat (first|apply zb1|apply zb2|apply zb3));refine blk_put (cs:=#[.int .i64 a0,.int .i64 a1,.int .i64 a2_0,.int .i64 a2_1,.string a2_2,.int .i64 1,.int .i64 0,.int .i64 0,.int .i64 0,.int .i64 0,.string (⟨#[]⟩:ByteArray),.int .i64 0,.slice none 0 0,.bool false]) ?_ 8 _ rfl;(with_reducible repeat (first|apply zb1|apply zb2|apply zb3));refine blk_put (cs:=#[.int .i64 a0,.int .i64 a1,.int .i64 a2_0,.int .i64 a2_1,.string a2_2,.int .i64 1,.int .i64 0,.int .i64 0,.int .i64 0,.int .i64 0,.string (⟨#[]⟩:ByteArray),.int .i64 0,.slice none 0 0,.bool false]) ?_ 7 _ rfl;(with_reducible repeat (first|apply zb1|apply zb2|apply zb3));refine blk_put (cs:=#[.int .i64 a0,.int .i64 a1,.int .i64 a2_0,.int .i64 a2_1,.string a2_2,.int .i64 1,.int .i64 0,.int .i64 0,.int .i64 0,.int .i64 0,.string (⟨#[]⟩:ByteArray),.int .i64 0,.slice none 0 0,.bool false]) ?_ 6 _ rfl;(with_reducible repeat (first|apply zb1|apply zb2|apply zb3));refine blk_put (cs:=#[.int .i64 a0,.int .i64 a1,.int .i64 a2_0,.int .i64 a2_1,.string a2_2,.int .i64 0,.int .i64 0,.int .i64 0,.int .i64 0,.int .i64 0,.string (⟨#[]⟩:ByteArray),.int .i64 0,.slice none 0 0,.bool false]) ?_ 5 _ rfl;(with_reducible repeat (first|apply zb1|apply zb2|apply zb3));refine blk_put (cs:=#[.int .i64 a0,.int .i64 a1,.int .i64 a2_0,.int .i64 a2_1,.string (⟨#[]⟩:ByteArray),.int .i64 0,.int .i64 0,.int .i64 0,.int .i64 0,.int .i64 0,.string (⟨#[]⟩:ByteArray),.int .i64 0,.slice none 0 0,.bool false]) ?_ 4 _ rfl;(with_reducible repeat (first|apply zb1|apply zb2|apply zb3));refine blk_put (cs:=#[.int .i64 a0,.int .i64 a1,.int .i64 a2_0,.int .i64 0,.string (⟨#[]⟩:ByteArray),.int .i64 0,.int .i64 0,.int .i64 0,.int .i64 0,.int .i64 0,.string (⟨#[]⟩:ByteArray),.int .i64 0,.slice none 0 0,.bool false]) ?_ 3 _ rfl;(with_reducible repeat (first|apply zb1|apply zb2|apply zb3));refine blk_put (cs:=#[.int .i64 a0,.int .i64 a1,.int .i64 0,.int .i64 0,.string (⟨#[]⟩:ByteArray),.int .i64 0,.int .i64 0,.int .i64 0,.int .i64 0,.int .i64 0,.string (⟨#[]⟩:ByteArray),.int .i64 0,.slice none 0 0,.bool false]) ?_ 2 _ rfl;(with_reducible repeat (first|apply zb1|apply zb2|apply zb3));refine blk_put (cs:=#[.int .i64 a0,.int .i64 0,.int .i64 0,.int .i64 0,.string (⟨#[]⟩:ByteArray),.int .i64 0,.int .i64 0,.int .i64 0,.int .i64 0,.int .i64 0,.string (⟨#[]⟩:ByteArray),.int .i64 0,.slice none 0 0,.bool false]) ?_ 1 _ rfl;(with_reducible repeat (first|apply zb1|apply zb2|apply zb3));refine blk_put (cs:=#[.int .i64 0,.int .i64 0,.int .i64 0,.int .i64 0,.string (⟨#[]⟩:ByteArray),.int .i64 0,.int .i64 0,.int .i64 0,.int .i64 0,.int .i64 0,.string (⟨#[]⟩:ByteArray),.int .i64 0,.slice none 0 0,.bool false]) ?_ 0 _ rfl;(with_reducible repeat (first|apply zb1|apply zb2|apply zb3));exact BK292.out) Tryd.underlying30 rfl (by kernel_rfl)) rfl ?_
  exact ⟨_,by first|(with_reducible rfl)|(simp only [isEmpty_bne,Bool.not_not] <;> rfl)|rfl|(simp [*,errW_none,errW_some] <;> rfl),by (with_reducible repeat (first|apply zk1|apply zk2|apply zk3));exact Kd.R_mono (Kd.R_far (p:=⟨gb292,13,none⟩) (Kd.R_far (p:=⟨gb292,12,none⟩) (Kd.R_far (p:=⟨gb292,11,none⟩) (Kd.R_far (p:=⟨gb292,10,none⟩) (Kd.R_far (p:=⟨gb292,9,none⟩) (Kd.R_far (p:=⟨gb292,8,none⟩) (Kd.R_far (p:=⟨gb292,7,none⟩) (Kd.R_far (p:=⟨gb292,6,none⟩) (Kd.R_far (p:=⟨gb292,5,none⟩) (Kd.R_far (p:=⟨gb292,4,none⟩) (Kd.R_far (p:=⟨gb292,3,none⟩) (Kd.R_far (p:=⟨gb292,2,none⟩) (Kd.R_far (p:=⟨gb292,1,none⟩) (Kd.R_far (p:=⟨gb292,0,none⟩) (Kd.R_types HO296.out BK292.out (by decide)) (fun _ hk=>hk.2) (.int .i64 a0)) (fun _ hk=>hk.2) (.int .i64 a1)) (fun _ hk=>hk.2) (.int .i64 a2_0)) (fun _ hk=>hk.2) (.int .i64 a2_1)) (fun _ hk=>hk.2) (.string a2_2)) (fun _ hk=>hk.2) (.int .i64 1)) (fun _ hk=>hk.2) (.int .i64 0)) (fun _ hk=>hk.2) (.int .i64 0)) (fun _ hk=>hk.2) (.int .i64 0)) (fun _ hk=>hk.2) (.int .i64 0)) (fun _ hk=>hk.2) (.string (⟨#[]⟩:ByteArray))) (fun _ hk=>hk.2) (.int .i64 t293)) (fun _ hk=>hk.2) (.slice Ao14 t294.length co14)) (fun _ hk=>hk.2) (.bool false)) (fun _ hk=>trivial),by repeat (first|(with_reducible first|exact HB.out|apply zl1|apply zl2|apply zl3|refine below_set ?_ GE291.out|refine below_set ?_ GE292.out|refine below_set ?_ GE297.out)|exact HB.out)⟩
 ·replace c6:=Bool.eq_false_iff.mpr c6
  subst c6
  have H1:(some (0,0,0,0,(⟨#[]⟩:ByteArray),0,0,0,0,0,(⟨#[]⟩:ByteArray),0,([]:List (S24)),false,4))=some (r1,r2,r3,r4,r5,r6,r7,r8,r9,r10,r11,r12,r13,r14,r15):=by rw [if_neg (show ¬ (false=true) by decide)] at H;exact H
  clear H
  have H:=H1
  clear H1
  simp only [Option.some.injEq,Prod.mk.injEq] at H
  obtain ⟨rfl,rfl,rfl,rfl,rfl,rfl,rfl,rfl,rfl,rfl,rfl,rfl,rfl,rfl,rfl⟩:=H
  go_enter Tryd.func10,Tryd.ntmps10
  try go_wp2_with (first|((with_reducible refine gate_dst (N:=5) rfl ?_);refine box_event ?hg (N:=5) ?hd (cs:=#[.int .i64 a2_0,.int .i64 a2_1,.string a2_2]) (t:=24) ?hr ?_;(case hd=>rfl);(case hg=>rfl);(case hr=>first|(go_simp;done)|(go_simp;rfl));intro gb291 hg w36 hbox hb;have BK291:=Aside0.mk (hbox);have GW291:=Aside0.mk ((by rw [hg];exact (below_size (by repeat (first|(with_reducible first|exact HB.out|apply zl1|apply zl2|apply zl3)|exact HB.out))):w.heap.size≤gb291));have GE291:=Aside0.mk ((by rw [hg];exact (below_size (by repeat (first|(with_reducible first|exact HB.out|apply zl1|apply zl2|apply zl3)|exact HB.out))):w.heap.size≤gb291));replace HB:=Aside0.mk (below_step (by repeat (first|(with_reducible first|exact HB.out|apply zl1|apply zl2|apply zl3)|exact HB.out)) hb);clear hb hbox hg)|((with_reducible refine gate_dst (N:=6) rfl ?_);refine box_event ?hg (N:=6) ?hd (cs:=#[.int .i64 0,.int .i64 0,.int .i64 0,.int .i64 0,.string (⟨#[]⟩:ByteArray),.int .i64 0,.int .i64 0,.int .i64 0,.int .i64 0,.int .i64 0,.string (⟨#[]⟩:ByteArray),.int .i64 0,.slice none 0 0,.bool false]) (t:=30) ?hr ?_;(case hd=>rfl);(case hg=>rfl);(case hr=>first|(go_simp;done)|(go_simp;rfl));intro gb292 hg w37 hbox hb;have BK292:=Aside0.mk (hbox);have GW292:=Aside0.mk ((by rw [hg];exact (below_size (by repeat (first|(with_reducible first|exact HB.out|apply zl1|apply zl2|apply zl3|refine below_set ?_ GE291.out)|exact HB.out))):w.heap.size≤gb292));have GE292:=Aside0.mk ((by rw [hg];exact (below_size (by repeat (first|(with_reducible first|exact HB.out|apply zl1|apply zl2|apply zl3|refine below_set ?_ GE291.out)|exact HB.out))):w.heap.size≤gb292));replace HB:=Aside0.mk (below_step (by repeat (first|(with_reducible first|exact HB.out|apply zl1|apply zl2|apply zl3|refine below_set ?_ GE291.out)|exact HB.out)) hb);have NB291_292:=Aside0.mk ((by rw [hg];exact Nat.ne_of_lt (blk_lt (g:=gb291) (o:=.cells #[.int .i64 a2_0,.int .i64 a2_1,.string a2_2] 24 (0,0)) (by (with_reducible repeat (first|apply zb1|apply zb2|apply zb3));exact BK291.out)):gb291 ≠ gb292));have NB292_291:=Aside0.mk ((by rw [hg];exact Nat.ne_of_gt (blk_lt (g:=gb291) (o:=.cells #[.int .i64 a2_0,.int .i64 a2_1,.string a2_2] 24 (0,0)) (by (with_reducible repeat (first|apply zb1|apply zb2|apply zb3));exact BK291.out)):gb292 ≠ gb291));replace BK291:=Aside0.mk (blk_below (g:=gb291) (o:=.cells #[.int .i64 a2_0,.int .i64 a2_1,.string a2_2] 24 (0,0)) (by (with_reducible repeat (first|apply zb1|apply zb2|apply zb3));exact BK291.out) hb);clear hb hbox hg))
  replace BK291:=Aside0.mk (blk_drew BK291.out)
  replace BK292:=Aside0.mk (blk_drew BK292.out)
  replace HB:=Aside0.mk (below_drew1 HB.out)
  refine start_ (n:=8) (S:=fun w'=>w'.cell? ⟨gb291,0,none⟩=some (.int .i64 a2_0)∧w'.cell? ⟨gb291,1,none⟩=some (.int .i64 a2_1)∧w'.cell? ⟨gb291,2,none⟩=some (.string a2_2)) (ds:=[]) #[false,false,false,false,false,false,false,false] (by kernel_rfl) rfl rfl ⟨(blk_cell BK291.out 0).trans rfl,(blk_cell BK291.out 1).trans rfl,(blk_cell BK291.out 2).trans rfl⟩ (fun hHeld=>?_);refine with_tabW factotumref21_Begin.tab1 factotumref21_Begin.bits1 (fun HT_ HW_=>?_)
  generalize w37.drew=w38 at BK291 BK292 HB hHeld ⊢
  refine pure_ (i:=0) (N:=some 9) (v:=?_) (a':=?_) #[true,false,false,false,false,false,false,false] rfl rfl (any_of HT_.out (by kernel_rfl)) (fun _ _ _ h=>h) (Or.inl ⟨by rfl,?_⟩) ?_ ?_
  rotate_left
  ·intro w'
   go_simp
   with_reducible rfl
  rotate_left
  ·simp only [Act.put,List.setIfInBounds_toArray,List.set_cons_zero,List.set_cons_succ,i64_w,i32_w]
   rfl
  refine pure_ (i:=1) (N:=some 10) (v:=?_) (a':=?_) #[true,true,false,false,false,false,false,false] rfl rfl (any_of HT_.out (by kernel_rfl)) (fun _ _ _ h=>h) (Or.inl ⟨by rfl,?_⟩) ?_ ?_
  rotate_left
  ·intro w'
   go_simp
   with_reducible rfl
  rotate_left
  ·simp only [Act.put,List.setIfInBounds_toArray,List.set_cons_zero,List.set_cons_succ,i64_w,i32_w]
   rfl
  refine take_ (i:=2) (N:=some 11) (v:=?_) (a':=?_) #[true,true,true,false,false,false,false,false] rfl rfl (take_ofW HT_.out HW_.out (by kernel_rfl)) (fun _ _ _ h=>h) (Or.inl ⟨by rfl,?_⟩) hHeld ?_ ?_
  rotate_left
  ·rintro w' ⟨s0,s1,s2⟩
   go_simp
   with_reducible rfl
  rotate_left
  ·simp only [Act.put,List.setIfInBounds_toArray,List.set_cons_zero,List.set_cons_succ,i64_w,i32_w]
   rfl
  refine take_ (i:=3) (N:=some 12) (v:=?_) (a':=?_) #[true,true,true,true,false,false,false,false] rfl rfl (take_ofW HT_.out HW_.out (by kernel_rfl)) (fun _ _ _ h=>h) (Or.inl ⟨by rfl,?_⟩) hHeld ?_ ?_
  rotate_left
  ·rintro w' ⟨s0,s1,s2⟩
   go_simp
   with_reducible rfl
  rotate_left
  ·simp only [Act.put,List.setIfInBounds_toArray,List.set_cons_zero,List.set_cons_succ,i64_w,i32_w]
   rfl
  refine join_ (σ:=Value × Nat) 1 #[true,true,true,true,true,true,true,false] (fun s_=>[(13,.agg #[.int .i64 t293,s_.1]),(8,.pointer (some ⟨s_.2,0,none⟩)),(14,.agg #[.int .i64 a0,.int .i64 a1,.int .i64 a2_0,.int .i64 a2_1,.string a2_2,.int .i64 1,.int .i64 0,.int .i64 0,.int .i64 0,.int .i64 0,.string (⟨#[]⟩:ByteArray),.int .i64 t293,s_.1,.bool false])]) (fun s_ w'=>(w'.cell? ⟨gb291,0,none⟩=some (.int .i64 a2_0)∧w'.cell? ⟨gb291,1,none⟩=some (.int .i64 a2_1)∧w'.cell? ⟨gb291,2,none⟩=some (.string a2_2))∧(Kd.R k24 24 w' w.heap.size (fun k_=>k_ ≠ gb291) s_.1 t294)∧(w'.heap[gb291]?=some (.cells #[.int .i64 a2_0,.int .i64 a2_1,.string a2_2] 24 (0,0)))∧(w'.heap[gb292]?=some (.cells #[.int .i64 0,.int .i64 0,.int .i64 0,.int .i64 0,.string (⟨#[]⟩:ByteArray),.int .i64 0,.int .i64 0,.int .i64 0,.int .i64 0,.int .i64 0,.string (⟨#[]⟩:ByteArray),.int .i64 0,.slice none 0 0,.bool false] 30 (0,0)))∧(w'.heap[s_.2]?=some (.cells #[.int .i64 0,.int .i64 0,.int .i64 0,.int .i64 0,.string (⟨#[]⟩:ByteArray),.int .i64 0,.int .i64 0,.int .i64 0,.int .i64 0,.int .i64 0,.string (⟨#[]⟩:ByteArray),.int .i64 0,.slice none 0 0,.bool false] 30 (0,0)))∧(w.heap.size≤s_.2)∧(w.heap.size≤s_.2)∧(gb291 ≠ s_.2)∧(s_.2 ≠ gb291)∧(gb292 ≠ s_.2)∧(s_.2 ≠ gb292)∧(Below w.heap.size w w')) ?_ ?_
  rotate_left
  ·intro hCont
   refine two_ (i:=4) (j:=6) (Ni:=some 13) (Nj:=some 8) #[true,true,true,true,true,false,false,false] #[true,true,true,true,false,false,true,false] rfl rfl rfl rfl (two_of HT_.out (by kernel_rfl)) (by decide) (by decide) (fun K hK=>?_) (fun K hK=>?_)
   ·skip
    refine goes_ Tryd.func30 (by kernel_rfl) rfl #[.agg #[.int .i64 a2_0,.int .i64 a2_1,.string a2_2]] (by rfl) rfl rfl (by (try simp only [List.map_toArray,List.map_cons,List.map_nil]);first|done|rfl|(simp only [List.length_drop,List.length_take];rfl)|(simp (disch:=omega) only [u64_in];rfl)) ?_
    with_reducible refine (factotumref16_First.calls k a2_0 a2_1 a2_2 t293 t294 _ A4.out).mono ?_
    rintro e w39 ⟨v295,rfl,ho0,hb⟩
    refine ⟨_,rfl,?_⟩
    have HO296:=Aside0.mk (Kd.R_lower (Kd.R_newB ho0 (g:=gb291) (o:=.cells #[.int .i64 a2_0,.int .i64 a2_1,.string a2_2] 24 (0,0)) (by (with_reducible repeat (first|apply zb1|apply zb2|apply zb3));exact BK291.out)) (below_size (by repeat (first|(with_reducible first|exact HB.out|apply zl1|apply zl2|apply zl3|refine below_set ?_ GE291.out|refine below_set ?_ GE292.out)|exact HB.out))))
    replace BK291:=Aside0.mk (blk_below (g:=gb291) (o:=.cells #[.int .i64 a2_0,.int .i64 a2_1,.string a2_2] 24 (0,0)) (by (with_reducible repeat (first|apply zb1|apply zb2|apply zb3));exact BK291.out) hb)
    replace BK292:=Aside0.mk (blk_below (g:=gb292) (o:=.cells #[.int .i64 0,.int .i64 0,.int .i64 0,.int .i64 0,.string (⟨#[]⟩:ByteArray),.int .i64 0,.int .i64 0,.int .i64 0,.int .i64 0,.int .i64 0,.string (⟨#[]⟩:ByteArray),.int .i64 0,.slice none 0 0,.bool false] 30 (0,0)) (by (with_reducible repeat (first|apply zb1|apply zb2|apply zb3));exact BK292.out) hb)
    replace HB:=Aside0.mk (below_step (by repeat (first|(with_reducible first|exact HB.out|apply zl1|apply zl2|apply zl3|refine below_set ?_ GE291.out|refine below_set ?_ GE292.out)|exact HB.out)) hb)
    (try clear hb)
    (try clear hb2)
    (try clear hk)
    (try clear hi)
    (try clear ho0)
    obtain ⟨Ao40,co40,eo40⟩:=Kd.R_slice HO296.out
    (first|subst eo40|(injection eo40 with f1_ f2_ f3_;have f4_:=f1_.symm;have f5_:=f3_.symm;clear f1_ f2_ f3_;subst f4_;subst f5_))
    refine hK.out _ _ ⟨(blk_cell BK291.out 0).trans rfl,(blk_cell BK291.out 1).trans rfl,(blk_cell BK291.out 2).trans rfl⟩ (fun hHeld=>?_)
    clear hK K
    refine norm_ (a':=?_) ?_ ?_
    rotate_left
    ·show Act.put _ (some 13) _=_
     simp only [Act.put,List.setIfInBounds_toArray,List.set_cons_zero,List.set_cons_succ,i64_w,i32_w]
     rfl
    refine pure_ (i:=5) (N:=some 14) (v:=?_) (a':=?_) #[true,true,true,true,true,true,false,false] rfl rfl (any_of HT_.out (by kernel_rfl)) (fun _ _ _ h=>h) (Or.inl ⟨by rfl,?_⟩) ?_ ?_
    rotate_left
    ·intro w'
     go_simp
     with_reducible rfl
    rotate_left
    ·simp only [Act.put,List.setIfInBounds_toArray,List.set_cons_zero,List.set_cons_succ,i64_w,i32_w]
     rfl
    refine one_ (i:=6) (N:=some 8) #[true,true,true,true,true,true,true,false] rfl rfl (one_of HT_.out (by kernel_rfl)) (by decide) (fun K hK=>?_)
    refine box_step ?hg (N:=8) ?hd (cs:=#[.int .i64 0,.int .i64 0,.int .i64 0,.int .i64 0,.string (⟨#[]⟩:ByteArray),.int .i64 0,.int .i64 0,.int .i64 0,.int .i64 0,.int .i64 0,.string (⟨#[]⟩:ByteArray),.int .i64 0,.slice none 0 0,.bool false]) (t:=30) ?hr ?_;(case hd=>rfl);(case hg=>rfl);(case hr=>first|(go_simp;done)|(go_simp;rfl))
    intro gb297 hg w41 hbox hb
    replace HO296:=Aside0.mk (Kd.R_below (by (with_reducible repeat (first|apply zk1|apply zk2|apply zk3));exact HO296.out) hb)
    have BK297:=Aside0.mk (hbox)
    have GW297:=Aside0.mk ((by rw [hg];exact (below_size (by repeat (first|(with_reducible first|exact HB.out|apply zl1|apply zl2|apply zl3|refine below_set ?_ GE291.out|refine below_set ?_ GE292.out)|exact HB.out))):w.heap.size≤gb297))
    have GE297:=Aside0.mk ((by rw [hg];exact (below_size (by repeat (first|(with_reducible first|exact HB.out|apply zl1|apply zl2|apply zl3|refine below_set ?_ GE291.out|refine below_set ?_ GE292.out)|exact HB.out))):w.heap.size≤gb297))
    replace HB:=Aside0.mk (below_step (by repeat (first|(with_reducible first|exact HB.out|apply zl1|apply zl2|apply zl3|refine below_set ?_ GE291.out|refine below_set ?_ GE292.out)|exact HB.out)) hb)
    have NB291_297:=Aside0.mk ((by rw [hg];exact Nat.ne_of_lt (blk_lt (g:=gb291) (o:=.cells #[.int .i64 a2_0,.int .i64 a2_1,.string a2_2] 24 (0,0)) (by (with_reducible repeat (first|apply zb1|apply zb2|apply zb3));exact BK291.out)):gb291 ≠ gb297))
    have NB297_291:=Aside0.mk ((by rw [hg];exact Nat.ne_of_gt (blk_lt (g:=gb291) (o:=.cells #[.int .i64 a2_0,.int .i64 a2_1,.string a2_2] 24 (0,0)) (by (with_reducible repeat (first|apply zb1|apply zb2|apply zb3));exact BK291.out)):gb297 ≠ gb291))
    replace BK291:=Aside0.mk (blk_below (g:=gb291) (o:=.cells #[.int .i64 a2_0,.int .i64 a2_1,.string a2_2] 24 (0,0)) (by (with_reducible repeat (first|apply zb1|apply zb2|apply zb3));exact BK291.out) hb)
    have NB292_297:=Aside0.mk ((by rw [hg];exact Nat.ne_of_lt (blk_lt (g:=gb292) (o:=.cells #[.int .i64 0,.int .i64 0,.int .i64 0,.int .i64 0,.string (⟨#[]⟩:ByteArray),.int .i64 0,.int .i64 0,.int .i64 0,.int .i64 0,.int .i64 0,.string (⟨#[]⟩:ByteArray),.int .i64 0,.slice none 0 0,.bool false] 30 (0,0)) (by (with_reducible repeat (first|apply zb1|apply zb2|apply zb3));exact BK292.out)):gb292 ≠ gb297))
    have NB297_292:=Aside0.mk ((by rw [hg];exact Nat.ne_of_gt (blk_lt (g:=gb292) (o:=.cells #[.int .i64 0,.int .i64 0,.int .i64 0,.int .i64 0,.string (⟨#[]⟩:ByteArray),.int .i64 0,.int .i64 0,.int .i64 0,.int .i64 0,.int .i64 0,.string (⟨#[]⟩:ByteArray),.int .i64 0,.slice none 0 0,.bool false] 30 (0,0)) (by (with_reducible repeat (first|apply zb1|apply zb2|apply zb3));exact BK292.out)):gb297 ≠ gb292))
    replace BK292:=Aside0.mk (blk_below (g:=gb292) (o:=.cells #[.int .i64 0,.int .i64 0,.int .i64 0,.int .i64 0,.string (⟨#[]⟩:ByteArray),.int .i64 0,.int .i64 0,.int .i64 0,.int .i64 0,.int .i64 0,.string (⟨#[]⟩:ByteArray),.int .i64 0,.slice none 0 0,.bool false] 30 (0,0)) (by (with_reducible repeat (first|apply zb1|apply zb2|apply zb3));exact BK292.out) hb)
    clear hb hbox hg
    refine hK.out _ _ ⟨(blk_cell BK291.out 0).trans rfl,(blk_cell BK291.out 1).trans rfl,(blk_cell BK291.out 2).trans rfl⟩ (fun hHeld=>?_)
    clear hK K
    refine norm_ (a':=?_) ?_ ?_
    rotate_left
    ·show Act.put _ (some 8) _=_
     simp only [Act.put,List.setIfInBounds_toArray,List.set_cons_zero,List.set_cons_succ,i64_w,i32_w]
     rfl
    exact norm_ (by simp only [putAll,Act.put,List.setIfInBounds_toArray,List.set_cons_zero,List.set_cons_succ]) (hCont (.slice Ao40 t294.length co40,gb297) _ ⟨hHeld,(by (with_reducible repeat (first|apply zk1|apply zk2|apply zk3));exact Kd.R_mono HO296.out (fun _ hk=>hk.2)),(by (with_reducible repeat (first|apply zb1|apply zb2|apply zb3));exact BK291.out),(by (with_reducible repeat (first|apply zb1|apply zb2|apply zb3));exact BK292.out),(by (with_reducible repeat (first|apply zb1|apply zb2|apply zb3));exact BK297.out),GW297.out,GE297.out,NB291_297.out,NB297_291.out,NB292_297.out,NB297_292.out,(by repeat (first|(with_reducible first|exact HB.out|apply zl1|apply zl2|apply zl3|refine below_set ?_ GE291.out|refine below_set ?_ GE292.out|refine below_set ?_ GE297.out)|exact HB.out))⟩)
   ·skip
    refine box_step ?hg (N:=8) ?hd (cs:=#[.int .i64 0,.int .i64 0,.int .i64 0,.int .i64 0,.string (⟨#[]⟩:ByteArray),.int .i64 0,.int .i64 0,.int .i64 0,.int .i64 0,.int .i64 0,.string (⟨#[]⟩:ByteArray),.int .i64 0,.slice none 0 0,.bool false]) (t:=30) ?hr ?_;(case hd=>rfl);(case hg=>rfl);(case hr=>first|(go_simp;done)|(go_simp;rfl))
    intro gb297 hg w39 hbox hb
    have BK297:=Aside0.mk (hbox)
    have GW297:=Aside0.mk ((by rw [hg];exact (below_size (by repeat (first|(with_reducible first|exact HB.out|apply zl1|apply zl2|apply zl3|refine below_set ?_ GE291.out|refine below_set ?_ GE292.out)|exact HB.out))):w.heap.size≤gb297))
    have GE297:=Aside0.mk ((by rw [hg];exact (below_size (by repeat (first|(with_reducible first|exact HB.out|apply zl1|apply zl2|apply zl3|refine below_set ?_ GE291.out|refine below_set ?_ GE292.out)|exact HB.out))):w.heap.size≤gb297))
    replace HB:=Aside0.mk (below_step (by repeat (first|(with_reducible first|exact HB.out|apply zl1|apply zl2|apply zl3|refine below_set ?_ GE291.out|refine below_set ?_ GE292.out)|exact HB.out)) hb)
    have NB291_297:=Aside0.mk ((by rw [hg];exact Nat.ne_of_lt (blk_lt (g:=gb291) (o:=.cells #[.int .i64 a2_0,.int .i64 a2_1,.string a2_2] 24 (0,0)) (by (with_reducible repeat (first|apply zb1|apply zb2|apply zb3));exact BK291.out)):gb291 ≠ gb297))
    have NB297_291:=Aside0.mk ((by rw [hg];exact Nat.ne_of_gt (blk_lt (g:=gb291) (o:=.cells #[.int .i64 a2_0,.int .i64 a2_1,.string a2_2] 24 (0,0)) (by (with_reducible repeat (first|apply zb1|apply zb2|apply zb3));exact BK291.out)):gb297 ≠ gb291))
    replace BK291:=Aside0.mk (blk_below (g:=gb291) (o:=.cells #[.int .i64 a2_0,.int .i64 a2_1,.string a2_2] 24 (0,0)) (by (with_reducible repeat (first|apply zb1|apply zb2|apply zb3));exact BK291.out) hb)
    have NB292_297:=Aside0.mk ((by rw [hg];exact Nat.ne_of_lt (blk_lt (g:=gb292) (o:=.cells #[.int .i64 0,.int .i64 0,.int .i64 0,.int .i64 0,.string (⟨#[]⟩:ByteArray),.int .i64 0,.int .i64 0,.int .i64 0,.int .i64 0,.int .i64 0,.string (⟨#[]⟩:ByteArray),.int .i64 0,.slice none 0 0,.bool false] 30 (0,0)) (by (with_reducible repeat (first|apply zb1|apply zb2|apply zb3));exact BK292.out)):gb292 ≠ gb297))
    have NB297_292:=Aside0.mk ((by rw [hg];exact Nat.ne_of_gt (blk_lt (g:=gb292) (o:=.cells #[.int .i64 0,.int .i64 0,.int .i64 0,.int .i64 0,.string (⟨#[]⟩:ByteArray),.int .i64 0,.int .i64 0,.int .i64 0,.int .i64 0,.int .i64 0,.string (⟨#[]⟩:ByteArray),.int .i64 0,.slice none 0 0,.bool false] 30 (0,0)) (by (with_reducible repeat (first|apply zb1|apply zb2|apply zb3));exact BK292.out)):gb297 ≠ gb292))
    replace BK292:=Aside0.mk (blk_below (g:=gb292) (o:=.cells #[.int .i64 0,.int .i64 0,.int .i64 0,.int .i64 0,.string (⟨#[]⟩:ByteArray),.int .i64 0,.int .i64 0,.int .i64 0,.int .i64 0,.int .i64 0,.string (⟨#[]⟩:ByteArray),.int .i64 0,.slice none 0 0,.bool false] 30 (0,0)) (by (with_reducible repeat (first|apply zb1|apply zb2|apply zb3));exact BK292.out) hb)
    clear hb hbox hg
    refine hK.out _ _ ⟨(blk_cell BK291.out 0).trans rfl,(blk_cell BK291.out 1).trans rfl,(blk_cell BK291.out 2).trans rfl⟩ (fun hHeld=>?_)
    clear hK K
    refine norm_ (a':=?_) ?_ ?_
    rotate_left
    ·show Act.put _ (some 8) _=_
     simp only [Act.put,List.setIfInBounds_toArray,List.set_cons_zero,List.set_cons_succ,i64_w,i32_w]
     rfl
    refine one_ (i:=4) (N:=some 13) #[true,true,true,true,true,false,true,false] rfl rfl (one_of HT_.out (by kernel_rfl)) (by decide) (fun K hK=>?_)
    refine goes_ Tryd.func30 (by kernel_rfl) rfl #[.agg #[.int .i64 a2_0,.int .i64 a2_1,.string a2_2]] (by rfl) rfl rfl (by (try simp only [List.map_toArray,List.map_cons,List.map_nil]);first|done|rfl|(simp only [List.length_drop,List.length_take];rfl)|(simp (disch:=omega) only [u64_in];rfl)) ?_
    with_reducible refine (factotumref16_First.calls k a2_0 a2_1 a2_2 t293 t294 _ A4.out).mono ?_
    rintro e w40 ⟨v295,rfl,ho0,hb⟩
    refine ⟨_,rfl,?_⟩
    have HO296:=Aside0.mk (Kd.R_lower (Kd.R_newB ho0 (g:=gb291) (o:=.cells #[.int .i64 a2_0,.int .i64 a2_1,.string a2_2] 24 (0,0)) (by (with_reducible repeat (first|apply zb1|apply zb2|apply zb3));exact BK291.out)) (below_size (by repeat (first|(with_reducible first|exact HB.out|apply zl1|apply zl2|apply zl3|refine below_set ?_ GE291.out|refine below_set ?_ GE292.out|refine below_set ?_ GE297.out)|exact HB.out))))
    replace BK291:=Aside0.mk (blk_below (g:=gb291) (o:=.cells #[.int .i64 a2_0,.int .i64 a2_1,.string a2_2] 24 (0,0)) (by (with_reducible repeat (first|apply zb1|apply zb2|apply zb3));exact BK291.out) hb)
    replace BK292:=Aside0.mk (blk_below (g:=gb292) (o:=.cells #[.int .i64 0,.int .i64 0,.int .i64 0,.int .i64 0,.string (⟨#[]⟩:ByteArray),.int .i64 0,.int .i64 0,.int .i64 0,.int .i64 0,.int .i64 0,.string (⟨#[]⟩:ByteArray),.int .i64 0,.slice none 0 0,.bool false] 30 (0,0)) (by (with_reducible repeat (first|apply zb1|apply zb2|apply zb3));exact BK292.out) hb)
    replace BK297:=Aside0.mk (blk_below (g:=gb297) (o:=.cells #[.int .i64 0,.int .i64 0,.int .i64 0,.int .i64 0,.string (⟨#[]⟩:ByteArray),.int .i64 0,.int .i64 0,.int .i64 0,.int .i64 0,.int .i64 0,.string (⟨#[]⟩:ByteArray),.int .i64 0,.slice none 0 0,.bool false] 30 (0,0)) (by (with_reducible repeat (first|apply zb1|apply zb2|apply zb3));exact BK297.out) hb)
    replace HB:=Aside0.mk (below_step (by repeat (first|(with_reducible first|exact HB.out|apply zl1|apply zl2|apply zl3|refine below_set ?_ GE291.out|refine below_set ?_ GE292.out|refine below_set ?_ GE297.out)|exact HB.out)) hb)
    (try clear hb)
    (try clear hb2)
    (try clear hk)
    (try clear hi)
    (try clear ho0)
    obtain ⟨Ao41,co41,eo41⟩:=Kd.R_slice HO296.out
    (first|subst eo41|(injection eo41 with f1_ f2_ f3_;have f4_:=f1_.symm;have f5_:=f3_.symm;clear f1_ f2_ f3_;subst f4_;subst f5_))
    refine hK.out _ _ ⟨(blk_cell BK291.out 0).trans rfl,(blk_cell BK291.out 1).trans rfl,(blk_cell BK291.out 2).trans rfl⟩ (fun hHeld=>?_)
    clear hK K
    refine norm_ (a':=?_) ?_ ?_
    rotate_left
    ·show Act.put _ (some 13) _=_
     simp only [Act.put,List.setIfInBounds_toArray,List.set_cons_zero,List.set_cons_succ,i64_w,i32_w]
     rfl
    refine pure_ (i:=5) (N:=some 14) (v:=?_) (a':=?_) #[true,true,true,true,true,true,true,false] rfl rfl (any_of HT_.out (by kernel_rfl)) (fun _ _ _ h=>h) (Or.inl ⟨by rfl,?_⟩) ?_ ?_
    rotate_left
    ·intro w'
     go_simp
     with_reducible rfl
    rotate_left
    ·simp only [Act.put,List.setIfInBounds_toArray,List.set_cons_zero,List.set_cons_succ,i64_w,i32_w]
     rfl
    exact norm_ (by simp only [putAll,Act.put,List.setIfInBounds_toArray,List.set_cons_zero,List.set_cons_succ]) (hCont (.slice Ao41 t294.length co41,gb297) _ ⟨hHeld,(by (with_reducible repeat (first|apply zk1|apply zk2|apply zk3));exact Kd.R_mono HO296.out (fun _ hk=>hk.2)),(by (with_reducible repeat (first|apply zb1|apply zb2|apply zb3));exact BK291.out),(by (with_reducible repeat (first|apply zb1|apply zb2|apply zb3));exact BK292.out),(by (with_reducible repeat (first|apply zb1|apply zb2|apply zb3));exact BK297.out),GW297.out,GE297.out,NB291_297.out,NB297_291.out,NB292_297.out,NB297_292.out,(by repeat (first|(with_reducible first|exact HB.out|apply zl1|apply zl2|apply zl3|refine below_set ?_ GE291.out|refine below_set ?_ GE292.out|refine below_set ?_ GE297.out)|exact HB.out))⟩)
  rintro ⟨v295,gb297⟩ w42 ⟨hS_,h0_,h1_,h2_,h3_,h4_,h5_,h6_,h7_,h8_,h9_,h10_⟩
  have n0_:Aside0 (Kd.R k24 24 w42 w.heap.size (fun k_=>k_ ≠ gb291) v295 t294):=⟨h0_⟩
  have n1_:Aside0 (w42.heap[gb291]?=some (.cells #[.int .i64 a2_0,.int .i64 a2_1,.string a2_2] 24 (0,0))):=⟨h1_⟩
  have n2_:Aside0 (w42.heap[gb292]?=some (.cells #[.int .i64 0,.int .i64 0,.int .i64 0,.int .i64 0,.string (⟨#[]⟩:ByteArray),.int .i64 0,.int .i64 0,.int .i64 0,.int .i64 0,.int .i64 0,.string (⟨#[]⟩:ByteArray),.int .i64 0,.slice none 0 0,.bool false] 30 (0,0))):=⟨h2_⟩
  have n3_:Aside0 (w42.heap[gb297]?=some (.cells #[.int .i64 0,.int .i64 0,.int .i64 0,.int .i64 0,.string (⟨#[]⟩:ByteArray),.int .i64 0,.int .i64 0,.int .i64 0,.int .i64 0,.int .i64 0,.string (⟨#[]⟩:ByteArray),.int .i64 0,.slice none 0 0,.bool false] 30 (0,0))):=⟨h3_⟩
  have n4_:Aside0 (w.heap.size≤gb297):=⟨h4_⟩
  have n5_:Aside0 (w.heap.size≤gb297):=⟨h5_⟩
  have n6_:Aside0 (gb291 ≠ gb297):=⟨h6_⟩
  have n7_:Aside0 (gb297 ≠ gb291):=⟨h7_⟩
  have n8_:Aside0 (gb292 ≠ gb297):=⟨h8_⟩
  have n9_:Aside0 (gb297 ≠ gb292):=⟨h9_⟩
  have n10_:Aside0 (Below w.heap.size w w42):=⟨h10_⟩
  clear BK291
  clear BK292
  clear HB
  clear h0_ h1_ h2_ h3_ h4_ h5_ h6_ h7_ h8_ h9_ h10_
  have HO296:=n0_
  have BK291:=n1_
  have BK292:=n2_
  have BK297:=n3_
  have GW297:=n4_
  have GE297:=n5_
  have NB291_297:=n6_
  have NB297_291:=n7_
  have NB292_297:=n8_
  have NB297_292:=n9_
  have HB:=n10_
  clear n0_ n1_ n2_ n3_ n4_ n5_ n6_ n7_ n8_ n9_ n10_
  have hHeld:w42.cell? ⟨gb291,0,none⟩=some (.int .i64 a2_0)∧w42.cell? ⟨gb291,1,none⟩=some (.int .i64 a2_1)∧w42.cell? ⟨gb291,2,none⟩=some (.string a2_2):=hS_
  obtain ⟨Ao43,co43,eo43⟩:=Kd.R_slice HO296.out
  (first|subst eo43|(injection eo43 with f1_ f2_ f3_;have f4_:=f1_.symm;have f5_:=f3_.symm;clear f1_ f2_ f3_;subst f4_;subst f5_))
  refine norm_ (a':=?_) ?_ ?_
  rotate_left
  ·simp only [putAll,Act.put,List.setIfInBounds_toArray,List.set_cons_zero,List.set_cons_succ]
   rfl
  refine one_ (i:=7) (N:=none) #[true,true,true,true,true,true,true,true] rfl rfl (one_of HT_.out (by kernel_rfl)) (by decide) (fun K hK=>?_)
  have hs44:w42.cell? ⟨gb297,0,none⟩=some (.int .i64 0):=(blk_cell BK297.out 0).trans rfl
  have hfs44:=blk_frozen BK297.out 0
  have hns44_0:=NB291_297.out
  have hns44_1:=NB292_297.out
  have hms44_0:=NB297_291.out
  have hms44_1:=NB297_292.out
  have hs45:w42.cell? ⟨gb297,1,none⟩=some (.int .i64 0):=(blk_cell BK297.out 1).trans rfl
  have hfs45:=blk_frozen BK297.out 1
  have hns45_0:=NB291_297.out
  have hns45_1:=NB292_297.out
  have hms45_0:=NB297_291.out
  have hms45_1:=NB297_292.out
  have hs46:w42.cell? ⟨gb297,2,none⟩=some (.int .i64 0):=(blk_cell BK297.out 2).trans rfl
  have hfs46:=blk_frozen BK297.out 2
  have hns46_0:=NB291_297.out
  have hns46_1:=NB292_297.out
  have hms46_0:=NB297_291.out
  have hms46_1:=NB297_292.out
  have hs47:w42.cell? ⟨gb297,3,none⟩=some (.int .i64 0):=(blk_cell BK297.out 3).trans rfl
  have hfs47:=blk_frozen BK297.out 3
  have hns47_0:=NB291_297.out
  have hns47_1:=NB292_297.out
  have hms47_0:=NB297_291.out
  have hms47_1:=NB297_292.out
  have hs48:w42.cell? ⟨gb297,4,none⟩=some (.string (⟨#[]⟩:ByteArray)):=(blk_cell BK297.out 4).trans rfl
  have hfs48:=blk_frozen BK297.out 4
  have hns48_0:=NB291_297.out
  have hns48_1:=NB292_297.out
  have hms48_0:=NB297_291.out
  have hms48_1:=NB297_292.out
  have hs49:w42.cell? ⟨gb297,5,none⟩=some (.int .i64 0):=(blk_cell BK297.out 5).trans rfl
  have hfs49:=blk_frozen BK297.out 5
  have hns49_0:=NB291_297.out
  have hns49_1:=NB292_297.out
  have hms49_0:=NB297_291.out
  have hms49_1:=NB297_292.out
  have hs50:w42.cell? ⟨gb297,6,none⟩=some (.int .i64 0):=(blk_cell BK297.out 6).trans rfl
  have hfs50:=blk_frozen BK297.out 6
  have hns50_0:=NB291_297.out
  have hns50_1:=NB292_297.out
  have hms50_0:=NB297_291.out
  have hms50_1:=NB297_292.out
  have hs51:w42.cell? ⟨gb297,7,none⟩=some (.int .i64 0):=(blk_cell BK297.out 7).trans rfl
  have hfs51:=blk_frozen BK297.out 7
  have hns51_0:=NB291_297.out
  have hns51_1:=NB292_297.out
  have hms51_0:=NB297_291.out
  have hms51_1:=NB297_292.out
  have hs52:w42.cell? ⟨gb297,8,none⟩=some (.int .i64 0):=(blk_cell BK297.out 8).trans rfl
  have hfs52:=blk_frozen BK297.out 8
  have hns52_0:=NB291_297.out
  have hns52_1:=NB292_297.out
  have hms52_0:=NB297_291.out
  have hms52_1:=NB297_292.out
  have hs53:w42.cell? ⟨gb297,9,none⟩=some (.int .i64 0):=(blk_cell BK297.out 9).trans rfl
  have hfs53:=blk_frozen BK297.out 9
  have hns53_0:=NB291_297.out
  have hns53_1:=NB292_297.out
  have hms53_0:=NB297_291.out
  have hms53_1:=NB297_292.out
  have hs54:w42.cell? ⟨gb297,10,none⟩=some (.string (⟨#[]⟩:ByteArray)):=(blk_cell BK297.out 10).trans rfl
  have hfs54:=blk_frozen BK297.out 10
  have hns54_0:=NB291_297.out
  have hns54_1:=NB292_297.out
  have hms54_0:=NB297_291.out
  have hms54_1:=NB297_292.out
  have hs55:w42.cell? ⟨gb297,11,none⟩=some (.int .i64 0):=(blk_cell BK297.out 11).trans rfl
  have hfs55:=blk_frozen BK297.out 11
  have hns55_0:=NB291_297.out
  have hns55_1:=NB292_297.out
  have hms55_0:=NB297_291.out
  have hms55_1:=NB297_292.out
  have hs56:w42.cell? ⟨gb297,12,none⟩=some (.slice none 0 0):=(blk_cell BK297.out 12).trans rfl
  have hfs56:=blk_frozen BK297.out 12
  have hns56_0:=NB291_297.out
  have hns56_1:=NB292_297.out
  have hms56_0:=NB297_291.out
  have hms56_1:=NB297_292.out
  have hs57:w42.cell? ⟨gb297,13,none⟩=some (.bool false):=(blk_cell BK297.out 13).trans rfl
  have hfs57:=blk_frozen BK297.out 13
  have hns57_0:=NB291_297.out
  have hns57_1:=NB292_297.out
  have hms57_0:=NB297_291.out
  have hms57_1:=NB297_292.out
  refine skip_ (w1:=?_) (by rfl) rfl ?_ ?_
  rotate_left
  ·go_simp
   rfl
  refine hK.out _ _ ⟨((cell_far (p:=⟨gb297,_,none⟩) NB291_297.out _).trans (((cell_far (p:=⟨gb297,_,none⟩) NB291_297.out _).trans (((cell_far (p:=⟨gb297,_,none⟩) NB291_297.out _).trans (((cell_far (p:=⟨gb297,_,none⟩) NB291_297.out _).trans (((cell_far (p:=⟨gb297,_,none⟩) NB291_297.out _).trans (((cell_far (p:=⟨gb297,_,none⟩) NB291_297.out _).trans (((cell_far (p:=⟨gb297,_,none⟩) NB291_297.out _).trans (((cell_far (p:=⟨gb297,_,none⟩) NB291_297.out _).trans (((cell_far (p:=⟨gb297,_,none⟩) NB291_297.out _).trans (((cell_far (p:=⟨gb297,_,none⟩) NB291_297.out _).trans (((cell_far (p:=⟨gb297,_,none⟩) NB291_297.out _).trans (((cell_far (p:=⟨gb297,_,none⟩) NB291_297.out _).trans (((cell_far (p:=⟨gb297,_,none⟩) NB291_297.out _).trans (((cell_far (p:=⟨gb297,_,none⟩) NB291_297.out _).trans (hHeld.1)))))))))))))))))))))))))))),((cell_far (p:=⟨gb297,_,none⟩) NB291_297.out _).trans (((cell_far (p:=⟨gb297,_,none⟩) NB291_297.out _).trans (((cell_far (p:=⟨gb297,_,none⟩) NB291_297.out _).trans (((cell_far (p:=⟨gb297,_,none⟩) NB291_297.out _).trans (((cell_far (p:=⟨gb297,_,none⟩) NB291_297.out _).trans (((cell_far (p:=⟨gb297,_,none⟩) NB291_297.out _).trans (((cell_far (p:=⟨gb297,_,none⟩) NB291_297.out _).trans (((cell_far (p:=⟨gb297,_,none⟩) NB291_297.out _).trans (((cell_far (p:=⟨gb297,_,none⟩) NB291_297.out _).trans (((cell_far (p:=⟨gb297,_,none⟩) NB291_297.out _).trans (((cell_far (p:=⟨gb297,_,none⟩) NB291_297.out _).trans (((cell_far (p:=⟨gb297,_,none⟩) NB291_297.out _).trans (((cell_far (p:=⟨gb297,_,none⟩) NB291_297.out _).trans (((cell_far (p:=⟨gb297,_,none⟩) NB291_297.out _).trans (hHeld.2.1)))))))))))))))))))))))))))),((cell_far (p:=⟨gb297,_,none⟩) NB291_297.out _).trans (((cell_far (p:=⟨gb297,_,none⟩) NB291_297.out _).trans (((cell_far (p:=⟨gb297,_,none⟩) NB291_297.out _).trans (((cell_far (p:=⟨gb297,_,none⟩) NB291_297.out _).trans (((cell_far (p:=⟨gb297,_,none⟩) NB291_297.out _).trans (((cell_far (p:=⟨gb297,_,none⟩) NB291_297.out _).trans (((cell_far (p:=⟨gb297,_,none⟩) NB291_297.out _).trans (((cell_far (p:=⟨gb297,_,none⟩) NB291_297.out _).trans (((cell_far (p:=⟨gb297,_,none⟩) NB291_297.out _).trans (((cell_far (p:=⟨gb297,_,none⟩) NB291_297.out _).trans (((cell_far (p:=⟨gb297,_,none⟩) NB291_297.out _).trans (((cell_far (p:=⟨gb297,_,none⟩) NB291_297.out _).trans (((cell_far (p:=⟨gb297,_,none⟩) NB291_297.out _).trans (((cell_far (p:=⟨gb297,_,none⟩) NB291_297.out _).trans (hHeld.2.2))))))))))))))))))))))))))))⟩ (fun hHeld=>?_)
  clear hK K
  refine done_ (done_of HT_.out (by kernel_rfl)) ?_
  have hnb58:=NB297_291.out
  have hnc58:=NB291_297.out
  have hnb59:=NB297_292.out
  have hnc59:=NB292_297.out
  have hcz60_0:w42.cell? ⟨gb297,0,none⟩=some (.int .i64 0):=(blk_cell BK297.out 0).trans rfl
  have hcz60_1:w42.cell? ⟨gb297,1,none⟩=some (.int .i64 0):=(blk_cell BK297.out 1).trans rfl
  have hcz60_2:w42.cell? ⟨gb297,2,none⟩=some (.int .i64 0):=(blk_cell BK297.out 2).trans rfl
  have hcz60_3:w42.cell? ⟨gb297,3,none⟩=some (.int .i64 0):=(blk_cell BK297.out 3).trans rfl
  have hcz60_4:w42.cell? ⟨gb297,4,none⟩=some (.string (⟨#[]⟩:ByteArray)):=(blk_cell BK297.out 4).trans rfl
  have hcz60_5:w42.cell? ⟨gb297,5,none⟩=some (.int .i64 0):=(blk_cell BK297.out 5).trans rfl
  have hcz60_6:w42.cell? ⟨gb297,6,none⟩=some (.int .i64 0):=(blk_cell BK297.out 6).trans rfl
  have hcz60_7:w42.cell? ⟨gb297,7,none⟩=some (.int .i64 0):=(blk_cell BK297.out 7).trans rfl
  have hcz60_8:w42.cell? ⟨gb297,8,none⟩=some (.int .i64 0):=(blk_cell BK297.out 8).trans rfl
  have hcz60_9:w42.cell? ⟨gb297,9,none⟩=some (.int .i64 0):=(blk_cell BK297.out 9).trans rfl
  have hcz60_10:w42.cell? ⟨gb297,10,none⟩=some (.string (⟨#[]⟩:ByteArray)):=(blk_cell BK297.out 10).trans rfl
  have hcz60_11:w42.cell? ⟨gb297,11,none⟩=some (.int .i64 0):=(blk_cell BK297.out 11).trans rfl
  have hcz60_12:w42.cell? ⟨gb297,12,none⟩=some (.slice none 0 0):=(blk_cell BK297.out 12).trans rfl
  have hcz60_13:w42.cell? ⟨gb297,13,none⟩=some (.bool false):=(blk_cell BK297.out 13).trans rfl
  have hfz60_0:=blk_frozen BK297.out 0
  have hfz60_1:=blk_frozen BK297.out 1
  have hfz60_2:=blk_frozen BK297.out 2
  have hfz60_3:=blk_frozen BK297.out 3
  have hfz60_4:=blk_frozen BK297.out 4
  have hfz60_5:=blk_frozen BK297.out 5
  have hfz60_6:=blk_frozen BK297.out 6
  have hfz60_7:=blk_frozen BK297.out 7
  have hfz60_8:=blk_frozen BK297.out 8
  have hfz60_9:=blk_frozen BK297.out 9
  have hfz60_10:=blk_frozen BK297.out 10
  have hfz60_11:=blk_frozen BK297.out 11
  have hfz60_12:=blk_frozen BK297.out 12
  have hfz60_13:=blk_frozen BK297.out 13
  try go_wp2_with (first|((with_reducible refine gate_callee (f:=18) rfl ?_);refine goesL_ (some 16) rfl rfl Tryd.func18 (by kernel_rfl) rfl #[.agg #[.int .i64 a0,.int .i64 a1,.int .i64 a2_0,.int .i64 a2_1,.string a2_2,.int .i64 1,.int .i64 0,.int .i64 0,.int .i64 0,.int .i64 0,.string (⟨#[]⟩:ByteArray),.int .i64 t293,.slice Ao43 t294.length co43,.bool false]] rfl (by (try simp only [List.map_toArray,List.map_cons,List.map_nil]);first|done|rfl|(simp only [List.length_drop,List.length_take];rfl)|(simp (disch:=omega) only [u64_in];rfl)) ?_;(with_reducible refine (factotumref21_Right.calls k a0 a1 a2_0 a2_1 a2_2 1 0 0 0 0 (⟨#[]⟩:ByteArray) t293 _ _ t294 false false _ ?side1 ?side2 A5.out).mono ?_);(case side1=>refine (Kd.R_reads' (e:=24) (base:=w.heap.size) (ok:=fun k_=>k_ ≠ gb291) (n:=t294.length) (c:=co43) ?_).2.2;exact (by (with_reducible repeat (first|apply zk1|apply zk2|apply zk3));exact (Kd.R_mono (Kd.R_far (p:=⟨gb297,13,none⟩) (Kd.R_far (p:=⟨gb297,12,none⟩) (Kd.R_far (p:=⟨gb297,11,none⟩) (Kd.R_far (p:=⟨gb297,10,none⟩) (Kd.R_far (p:=⟨gb297,9,none⟩) (Kd.R_far (p:=⟨gb297,8,none⟩) (Kd.R_far (p:=⟨gb297,7,none⟩) (Kd.R_far (p:=⟨gb297,6,none⟩) (Kd.R_far (p:=⟨gb297,5,none⟩) (Kd.R_far (p:=⟨gb297,4,none⟩) (Kd.R_far (p:=⟨gb297,3,none⟩) (Kd.R_far (p:=⟨gb297,2,none⟩) (Kd.R_far (p:=⟨gb297,1,none⟩) (Kd.R_far (p:=⟨gb297,0,none⟩) (Kd.R_types HO296.out BK297.out (by decide)) (fun _ hk=>hk.2) (.int .i64 a0)) (fun _ hk=>hk.2) (.int .i64 a1)) (fun _ hk=>hk.2) (.int .i64 a2_0)) (fun _ hk=>hk.2) (.int .i64 a2_1)) (fun _ hk=>hk.2) (.string a2_2)) (fun _ hk=>hk.2) (.int .i64 1)) (fun _ hk=>hk.2) (.int .i64 0)) (fun _ hk=>hk.2) (.int .i64 0)) (fun _ hk=>hk.2) (.int .i64 0)) (fun _ hk=>hk.2) (.int .i64 0)) (fun _ hk=>hk.2) (.string (⟨#[]⟩:ByteArray))) (fun _ hk=>hk.2) (.int .i64 t293)) (fun _ hk=>hk.2) (.slice Ao43 t294.length co43)) (fun _ hk=>hk.2) (.bool false)) (fun _ h_=>h_.1))));(case side2=>exact (Kd.R_reads' HO296.out).2.1);rintro e w61 ⟨rfl,hb⟩;refine ⟨_,rfl,?_⟩;replace HO296:=Aside0.mk (Kd.R_below (by (with_reducible repeat (first|apply zk1|apply zk2|apply zk3));exact (Kd.R_mono (Kd.R_far (p:=⟨gb297,13,none⟩) (Kd.R_far (p:=⟨gb297,12,none⟩) (Kd.R_far (p:=⟨gb297,11,none⟩) (Kd.R_far (p:=⟨gb297,10,none⟩) (Kd.R_far (p:=⟨gb297,9,none⟩) (Kd.R_far (p:=⟨gb297,8,none⟩) (Kd.R_far (p:=⟨gb297,7,none⟩) (Kd.R_far (p:=⟨gb297,6,none⟩) (Kd.R_far (p:=⟨gb297,5,none⟩) (Kd.R_far (p:=⟨gb297,4,none⟩) (Kd.R_far (p:=⟨gb297,3,none⟩) (Kd.R_far (p:=⟨gb297,2,none⟩) (Kd.R_far (p:=⟨gb297,1,none⟩) (Kd.R_far (p:=⟨gb297,0,none⟩) (Kd.R_types HO296.out BK297.out (by decide)) (fun _ hk=>hk.2) (.int .i64 a0)) (fun _ hk=>hk.2) (.int .i64 a1)) (fun _ hk=>hk.2) (.int .i64 a2_0)) (fun _ hk=>hk.2) (.int .i64 a2_1)) (fun _ hk=>hk.2) (.string a2_2)) (fun _ hk=>hk.2) (.int .i64 1)) (fun _ hk=>hk.2) (.int .i64 0)) (fun _ hk=>hk.2) (.int .i64 0)) (fun _ hk=>hk.2) (.int .i64 0)) (fun _ hk=>hk.2) (.int .i64 0)) (fun _ hk=>hk.2) (.string (⟨#[]⟩:ByteArray))) (fun _ hk=>hk.2) (.int .i64 t293)) (fun _ hk=>hk.2) (.slice Ao43 t294.length co43)) (fun _ hk=>hk.2) (.bool false)) (fun _ h_=>h_.1))) hb);replace BK291:=Aside0.mk (blk_below (g:=gb291) (o:=.cells #[.int .i64 a2_0,.int .i64 a2_1,.string a2_2] 24 (0,0)) (by (with_reducible repeat (first|apply zb1|apply zb2|apply zb3));refine blk_far ?_ NB291_297.out _;(with_reducible repeat (first|apply zb1|apply zb2|apply zb3));refine blk_far ?_ NB291_297.out _;(with_reducible repeat (first|apply zb1|apply zb2|apply zb3));refine blk_far ?_ NB291_297.out _;(with_reducible repeat (first|apply zb1|apply zb2|apply zb3));refine blk_far ?_ NB291_297.out _;(with_reducible repeat (first|apply zb1|apply zb2|apply zb3));refine blk_far ?_ NB291_297.out _;(with_reducible repeat (first|apply zb1|apply zb2|apply zb3));refine blk_far ?_ NB291_297.out _;(with_reducible repeat (first|apply zb1|apply zb2|apply zb3));refine blk_far ?_ NB291_297.out _;(with_reducible repeat (first|apply zb1|apply zb2|apply zb3));refine blk_far ?_ NB291_297.out _;(with_reducible repeat (first|apply zb1|apply zb2|apply zb3));refine blk_far ?_ NB291_297.out _;(with_reducible repeat (first|apply zb1|apply zb2|apply zb3));refine blk_far ?_ NB291_297.out _;(with_reducible repeat (first|apply zb1|apply zb2|apply zb3));refine blk_far ?_ NB291_297.out _;(with_reducible repeat (first|apply zb1|apply zb2|apply zb3));refine blk_far ?_ NB291_297.out _;(with_reducible repeat (first|apply zb1|apply zb2|apply zb3));refine blk_far ?_ NB291_297.out _;(with_reducible repeat (first|apply zb1|apply zb2|apply zb3));refine blk_far ?_ NB291_297.out _;(with_reducible repeat (first|apply zb1|apply zb2|apply zb3));exact BK291.out) hb);replace BK292:=Aside0.mk (blk_below (g:=gb292) (o:=.cells #[.int .i64 0,.int .i64 0,.int .i64 0,.int .i64 0,.string (⟨#[]⟩:ByteArray),.int .i64 0,.int .i64 0,.int .i64 0,.int .i64 0,.int .i64 0,.string (⟨#[]⟩:ByteArray),.int .i64 0,.slice none 0 0,.bool false] 30 (0,0)) (by (with_reducible repeat (first|apply zb1|apply zb2|apply zb3));refine blk_far ?_ NB292_297.out _;(with_reducible repeat (first|apply zb1|apply zb2|apply zb3));refine blk_far ?_ NB292_297.out _;(with_reducible repeat (first|apply zb1|apply zb2|apply zb3));refine blk_far ?_ NB292_297.out _;(with_reducible repeat (first|apply zb1|apply zb2|apply zb3));refine blk_far ?_ NB292_297.out _;(with_reducible repeat (first|apply zb1|apply zb2|apply zb3));refine blk_far ?_ NB292_297.out _;(with_reducible repeat (first|apply zb1|apply zb2|apply zb3));refine blk_far ?_ NB292_297.out _;(with_reducible repeat (first|apply zb1|apply zb2|apply zb3));refine blk_far ?_ NB292_297.out _;(with_reducible repeat (first|apply zb1|apply zb2|apply zb3));refine blk_far ?_ NB292_297.out _;(with_reducible repeat (first|apply zb1|apply zb2|apply zb3));refine blk_far ?_ NB292_297.out _;(with_reducible repeat (first|apply zb1|apply zb2|apply zb3));refine blk_far ?_ NB292_297.out _;(with_reducible repeat (first|apply zb1|apply zb2|apply zb3));refine blk_far ?_ NB292_297.out _;(with_reducible repeat (first|apply zb1|apply zb2|apply zb3));refine blk_far ?_ NB292_297.out _;(with_reducible repeat (first|apply zb1|apply zb2|apply zb3));refine blk_far ?_ NB292_297.out _;(with_reducible repeat (first|apply zb1|apply zb2|apply zb3));refine blk_far ?_ NB292_297.out _;(with_reducible repeat (first|apply zb1|apply zb2|apply zb3));exact BK292.out) hb);replace BK297:=Aside0.mk (blk_below (g:=gb297) (o:=.cells #[.int .i64 a0,.int .i64 a1,.int .i64 a2_0,.int .i64 a2_1,.string a2_2,.int .i64 1,.int .i64 0,.int .i64 0,.int .i64 0,.int .i64 0,.string (⟨#[]⟩:ByteArray),.int .i64 t293,.slice Ao43 t294.length co43,.bool false] 30 (0,0)) (by (with_reducible repeat (first|apply zb1|apply zb2|apply zb3));refine blk_put (cs:=#[.int .i64 a0,.int .i64 a1,.int .i64 a2_0,.int .i64 a2_1,.string a2_2,.int .i64 1,.int .i64 0,.int .i64 0,.int .i64 0,.int .i64 0,.string (⟨#[]⟩:ByteArray),.int .i64 t293,.slice Ao43 t294.length co43,.bool false]) ?_ 13 _ rfl;(with_reducible repeat (first|apply zb1|apply zb2|apply zb3));refine blk_put (cs:=#[.int .i64 a0,.int .i64 a1,.int .i64 a2_0,.int .i64 a2_1,.string a2_2,.int .i64 1,.int .i64 0,.int .i64 0,.int .i64 0,.int .i64 0,.string (⟨#[]⟩:ByteArray),.int .i64 t293,.slice none 0 0,.bool false]) ?_ 12 _ rfl;(with_reducible repeat (first|apply zb1|apply zb2|apply zb3));refine blk_put (cs:=#[.int .i64 a0,.int .i64 a1,.int .i64 a2_0,.int .i64 a2_1,.string a2_2,.int .i64 1,.int .i64 0,.int .i64 0,.int .i64 0,.int .i64 0,.string (⟨#[]⟩:ByteArray),.int .i64 0,.slice none 0 0,.bool false]) ?_ 11 _ rfl;(with_reducible repeat (first|apply zb1|apply zb2|apply zb3));refine blk_put (cs:=#[.int .i64 a0,.int .i64 a1,.int .i64 a2_0,.int .i64 a2_1,.string a2_2,.int .i64 1,.int .i64 0,.int .i64 0,.int .i64 0,.int .i64 0,.string (⟨#[]⟩:ByteArray),.int .i64 0,.slice none 0 0,.bool false]) ?_ 10 _ rfl;(with_reducible repeat (first|apply zb1|apply zb2|apply zb3));refine blk_put (cs:=#[.int .i64 a0,.int .i64 a1,.int .i64 a2_0,.int .i64 a2_1,.string a2_2,.int .i64 1,.int .i64 0,.int .i64 0,.int .i64 0,.int .i64 0,.string (⟨#[]⟩:ByteArray),.int .i64 0,.slice none 0 0,.bool false]) ?_ 9 _ rfl;(with_reducible repeat (first|apply zb1|apply zb2|apply zb3));refine blk_put (cs:=#[.int .i64 a0,.int .i64 a1,.int .i64 a2_0,.int .i64 a2_1,.string a2_2,.int .i64 1,.int .i64 0,.int .i64 0,.int .i64 0,.int .i64 0,.string (⟨#[]⟩:ByteArray),.int .i64 0,.slice none 0 0,.bool false]) ?_ 8 _ rfl;(with_reducible repeat (first|apply zb1|apply zb2|apply zb3));refine blk_put (cs:=#[.int .i64 a0,.int .i64 a1,.int .i64 a2_0,.int .i64 a2_1,.string a2_2,.int .i64 1,.int .i64 0,.int .i64 0,.int .i64 0,.int .i64 0,.string (⟨#[]⟩:ByteArray),.int .i64 0,.slice none 0 0,.bool false]) ?_ 7 _ rfl;(with_reducible repeat (first|apply zb1|apply zb2|apply zb3));refine blk_put (cs:=#[.int .i64 a0,.int .i64 a1,.int .i64 a2_0,.int .i64 a2_1,.string a2_2,.int .i64 1,.int .i64 0,.int .i64 0,.int .i64 0,.int .i64 0,.string (⟨#[]⟩:ByteArray),.int .i64 0,.slice none 0 0,.bool false]) ?_ 6 _ rfl;(with_reducible repeat (first|apply zb1|apply zb2|apply zb3));refine blk_put (cs:=#[.int .i64 a0,.int .i64 a1,.int .i64 a2_0,.int .i64 a2_1,.string a2_2,.int .i64 0,.int .i64 0,.int .i64 0,.int .i64 0,.int .i64 0,.string (⟨#[]⟩:ByteArray),.int .i64 0,.slice none 0 0,.bool false]) ?_ 5 _ rfl;(with_reducible repeat (first|apply zb1|apply zb2|apply zb3));refine blk_put (cs:=#[.int .i64 a0,.int .i64 a1,.int .i64 a2_0,.int .i64 a2_1,.string (⟨#[]⟩:ByteArray),.int .i64 0,.int .i64 0,.int .i64 0,.int .i64 0,.int .i64 0,.string (⟨#[]⟩:ByteArray),.int .i64 0,.slice none 0 0,.bool false]) ?_ 4 _ rfl;(with_reducible repeat (first|apply zb1|apply zb2|apply zb3));refine blk_put (cs:=#[.int .i64 a0,.int .i64 a1,.int .i64 a2_0,.int .i64 0,.string (⟨#[]⟩:ByteArray),.int .i64 0,.int .i64 0,.int .i64 0,.int .i64 0,.int .i64 0,.string (⟨#[]⟩:ByteArray),.int .i64 0,.slice none 0 0,.bool false]) ?_ 3 _ rfl;(with_reducible repeat (first|apply zb1|apply zb2|apply zb3));refine blk_put (cs:=#[.int .i64 a0,.int .i64 a1,.int .i64 0,.int .i64 0,.string (⟨#[]⟩:ByteArray),.int .i64 0,.int .i64 0,.int .i64 0,.int .i64 0,.int .i64 0,.string (⟨#[]⟩:ByteArray),.int .i64 0,.slice none 0 0,.bool false]) ?_ 2 _ rfl;(with_reducible repeat (first|apply zb1|apply zb2|apply zb3));refine blk_put (cs:=#[.int .i64 a0,.int .i64 0,.int .i64 0,.int .i64 0,.string (⟨#[]⟩:ByteArray),.int .i64 0,.int .i64 0,.int .i64 0,.int .i64 0,.int .i64 0,.string (⟨#[]⟩:ByteArray),.int .i64 0,.slice none 0 0,.bool false]) ?_ 1 _ rfl;(with_reducible repeat (first|apply zb1|apply zb2|apply zb3));refine blk_put (cs:=#[.int .i64 0,.int .i64 0,.int .i64 0,.int .i64 0,.string (⟨#[]⟩:ByteArray),.int .i64 0,.int .i64 0,.int .i64 0,.int .i64 0,.int .i64 0,.string (⟨#[]⟩:ByteArray),.int .i64 0,.slice none 0 0,.bool false]) ?_ 0 _ rfl;(with_reducible repeat (first|apply zb1|apply zb2|apply zb3));exact BK297.out) hb);replace HB:=Aside0.mk (below_step (by repeat (first|(with_reducible first|exact HB.out|apply zl1|apply zl2|apply zl3|refine below_set ?_ GE291.out|refine below_set ?_ GE292.out|refine below_set ?_ GE297.out)|exact HB.out)) hb);(try clear hb);have hnb62:=NB292_291.out;have hnc62:=NB291_292.out;have hcz63_0:w61.cell? ⟨gb292,0,none⟩=some (.int .i64 0):=(blk_cell BK292.out 0).trans rfl;have hcz63_1:w61.cell? ⟨gb292,1,none⟩=some (.int .i64 0):=(blk_cell BK292.out 1).trans rfl;have hcz63_2:w61.cell? ⟨gb292,2,none⟩=some (.int .i64 0):=(blk_cell BK292.out 2).trans rfl;have hcz63_3:w61.cell? ⟨gb292,3,none⟩=some (.int .i64 0):=(blk_cell BK292.out 3).trans rfl;have hcz63_4:w61.cell? ⟨gb292,4,none⟩=some (.string (⟨#[]⟩:ByteArray)):=(blk_cell BK292.out 4).trans rfl;have hcz63_5:w61.cell? ⟨gb292,5,none⟩=some (.int .i64 0):=(blk_cell BK292.out 5).trans rfl;have hcz63_6:w61.cell? ⟨gb292,6,none⟩=some (.int .i64 0):=(blk_cell BK292.out 6).trans rfl;have hcz63_7:w61.cell? ⟨gb292,7,none⟩=some (.int .i64 0):=(blk_cell BK292.out 7).trans rfl;have hcz63_8:w61.cell? ⟨gb292,8,none⟩=some (.int .i64 0):=(blk_cell BK292.out 8).trans rfl;have hcz63_9:w61.cell? ⟨gb292,9,none⟩=some (.int .i64 0):=(blk_cell BK292.out 9).trans rfl;have hcz63_10:w61.cell? ⟨gb292,10,none⟩=some (.string (⟨#[]⟩:ByteArray)):=(blk_cell BK292.out 10).trans rfl;have hcz63_11:w61.cell? ⟨gb292,11,none⟩=some (.int .i64 0):=(blk_cell BK292.out 11).trans rfl;have hcz63_12:w61.cell? ⟨gb292,12,none⟩=some (.slice none 0 0):=(blk_cell BK292.out 12).trans rfl;have hcz63_13:w61.cell? ⟨gb292,13,none⟩=some (.bool false):=(blk_cell BK292.out 13).trans rfl;have hfz63_0:=blk_frozen BK292.out 0;have hfz63_1:=blk_frozen BK292.out 1;have hfz63_2:=blk_frozen BK292.out 2;have hfz63_3:=blk_frozen BK292.out 3;have hfz63_4:=blk_frozen BK292.out 4;have hfz63_5:=blk_frozen BK292.out 5;have hfz63_6:=blk_frozen BK292.out 6;have hfz63_7:=blk_frozen BK292.out 7;have hfz63_8:=blk_frozen BK292.out 8;have hfz63_9:=blk_frozen BK292.out 9;have hfz63_10:=blk_frozen BK292.out 10;have hfz63_11:=blk_frozen BK292.out 11;have hfz63_12:=blk_frozen BK292.out 12;have hfz63_13:=blk_frozen BK292.out 13))
  refine bodyPost_ret (results_ct rfl _ _ gb292 30 #[.int .i64 0,.int .i64 0,.int .i64 0,.int .i64 0,.string (⟨#[]⟩:ByteArray),.int .i64 0,.int .i64 0,.int .i64 0,.int .i64 0,.int .i64 0,.string (⟨#[]⟩:ByteArray),.int .i64 0,.slice none 0 0,.bool false] (0,0) _ rfl (by (with_reducible repeat (first|apply zb1|apply zb2|apply zb3));refine blk_put (cs:=#[.int .i64 0,.int .i64 0,.int .i64 0,.int .i64 0,.string (⟨#[]⟩:ByteArray),.int .i64 0,.int .i64 0,.int .i64 0,.int .i64 0,.int .i64 0,.string (⟨#[]⟩:ByteArray),.int .i64 0,.slice none 0 0,.bool false]) ?_ 13 _ rfl;(with_reducible repeat (first|apply zb1|apply zb2|apply zb3));refine blk_put (cs:=#[.int .i64 0,.int .i64 0,.int .i64 0,.int .i64 0,.string (⟨#[]⟩:ByteArray),.int .i64 0,.int .i64 0,.int .i64 0,.int .i64 0,.int .i64 0,.string (⟨#[]⟩:ByteArray),.int .i64 0,.slice none 0 0,.bool false]) ?_ 12 _ rfl;(with_reducible repeat (first|apply zb1|apply zb2|apply zb3));refine blk_put (cs:=#[.int .i64 0,.int .i64 0,.int .i64 0,.int .i64 0,.string (⟨#[]⟩:ByteArray),.int .i64 0,.int .i64 0,.int .i64 0,.int .i64 0,.int .i64 0,.string (⟨#[]⟩:ByteArray),.int .i64 0,.slice none 0 0,.bool false]) ?_ 11 _ rfl;(with_reducible repeat (first|apply zb1|apply zb2|apply zb3));refine blk_put (cs:=#[.int .i64 0,.int .i64 0,.int .i64 0,.int .i64 0,.string (⟨#[]⟩:ByteArray),.int .i64 0,.int .i64 0,.int .i64 0,.int .i64 0,.int .i64 0,.string (⟨#[]⟩:ByteArray),.int .i64 0,.slice none 0 0,.bool false]) ?_ 10 _ rfl;(with_reducible repeat (first|apply zb1|apply zb2|apply zb3));refine blk_put (cs:=#[.int .i64 0,.int .i64 0,.int .i64 0,.int .i64 0,.string (⟨#[]⟩:ByteArray),.int .i64 0,.int .i64 0,.int .i64 0,.int .i64 0,.int .i64 0,.string (⟨#[]⟩:ByteArray),.int .i64 0,.slice none 0 0,.bool false]) ?_ 9 _ rfl;(with_reducible repeat (first|apply zb1|apply zb2|apply zb3));refine blk_put (cs:=#[.int .i64 0,.int .i64 0,.int .i64 0,.int .i64 0,.string (⟨#[]⟩:ByteArray),.int .i64 0,.int .i64 0,.int .i64 0,.int .i64 0,.int .i64 0,.string (⟨#[]⟩:ByteArray),.int .i64 0,.slice none 0 0,.bool false]) ?_ 8 _ rfl;(with_reducible repeat (first|apply zb1|apply zb2|apply zb3));refine blk_put (cs:=#[.int .i64 0,.int .i64 0,.int .i64 0,.int .i64 0,.string (⟨#[]⟩:ByteArray),.int .i64 0,.int .i64 0,.int .i64 0,.int .i64 0,.int .i64 0,.string (⟨#[]⟩:ByteArray),.int .i64 0,.slice none 0 0,.bool false]) ?_ 7 _ rfl;(with_reducible repeat (first|apply zb1|apply zb2|apply zb3));refine blk_put (cs:=#[.int .i64 0,.int .i64 0,.int .i64 0,.int .i64 0,.string (⟨#[]⟩:ByteArray),.int .i64 0,.int .i64 0,.int .i64 0,.int .i64 0,.int .i64 0,.string (⟨#[]⟩:ByteArray),.int .i64 0,.slice none 0 0,.bool false]) ?_ 6 _ rfl;(with_reducible repeat (first|apply zb1|apply zb2|apply zb3));refine blk_put (cs:=#[.int .i64 0,.int .i64 0,.int .i64 0,.int .i64 0,.string (⟨#[]⟩:ByteArray),.int .i64 0,.int .i64 0,.int .i64 0,.int .i64 0,.int .i64 0,.string (⟨#[]⟩:ByteArray),.int .i64 0,.slice none 0 0,.bool false]) ?_ 5 _ rfl;(with_reducible repeat (first|apply zb1|apply zb2|apply zb3));refine blk_put (cs:=#[.int .i64 0,.int .i64 0,.int .i64 0,.int .i64 0,.string (⟨#[]⟩:ByteArray),.int .i64 0,.int .i64 0,.int .i64 0,.int .i64 0,.int .i64 0,.string (⟨#[]⟩:ByteArray),.int .i64 0,.slice none 0 0,.bool false]) ?_ 4 _ rfl;(with_reducible repeat (first|apply zb1|apply zb2|apply zb3));refine blk_put (cs:=#[.int .i64 0,.int .i64 0,.int .i64 0,.int .i64 0,.string (⟨#[]⟩:ByteArray),.int .i64 0,.int .i64 0,.int .i64 0,.int .i64 0,.int .i64 0,.string (⟨#[]⟩:ByteArray),.int .i64 0,.slice none 0 0,.bool false]) ?_ 3 _ rfl;(with_reducible repeat (first|apply zb1|apply zb2|apply zb3));refine blk_put (cs:=#[.int .i64 0,.int .i64 0,.int .i64 0,.int .i64 0,.string (⟨#[]⟩:ByteArray),.int .i64 0,.int .i64 0,.int .i64 0,.int .i64 0,.int .i64 0,.string (⟨#[]⟩:ByteArray),.int .i64 0,.slice none 0 0,.bool false]) ?_ 2 _ rfl;(with_reducible repeat (first|apply zb1|apply zb2|apply zb3));refine blk_put (cs:=#[.int .i64 0,.int .i64 0,.int .i64 0,.int .i64 0,.string (⟨#[]⟩:ByteArray),.int .i64 0,.int .i64 0,.int .i64 0,.int .i64 0,.int .i64 0,.string (⟨#[]⟩:ByteArray),.int .i64 0,.slice none 0 0,.bool false]) ?_ 1 _ rfl;(with_reducible repeat (first|apply zb1|apply zb2|apply zb3));refine blk_put (cs:=#[.int .i64 0,.int .i64 0,.int .i64 0,.int .i64 0,.string (⟨#[]⟩:ByteArray),.int .i64 0,.int .i64 0,.int .i64 0,.int .i64 0,.int .i64 0,.string (⟨#[]⟩:ByteArray),.int .i64 0,.slice none 0 0,.bool false]) ?_ 0 _ rfl;(with_reducible repeat (first|apply zb1|apply zb2|apply zb3));exact BK292.out) Tryd.underlying30 rfl (by kernel_rfl)) rfl ?_
  exact ⟨_,by first|(with_reducible rfl)|(simp only [isEmpty_bne,Bool.not_not] <;> rfl)|rfl|(simp [*,errW_none,errW_some] <;> rfl),by first|exact Kd.R_nil _ _ _ _ _|exact Kd.N_nil _ _ _ _ _|exact Kd.V_nil _ _ _ _ _|exact Kd.Q_nil _ _ _ _ _|exact Kd.S_nil _ _ _ _ _,by repeat (first|(with_reducible first|exact HB.out|apply zl1|apply zl2|apply zl3|refine below_set ?_ GE291.out|refine below_set ?_ GE292.out|refine below_set ?_ GE297.out)|exact HB.out)⟩

end Go.Proofs.YtobjnhkjahhfnaaDoor.PAll
