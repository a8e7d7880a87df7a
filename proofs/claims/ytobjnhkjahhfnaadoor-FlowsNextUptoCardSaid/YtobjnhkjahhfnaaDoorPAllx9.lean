/- Printed walks of the functions that the laws reach: each function, what it computes, and that it does. No conditions. -/
import Derived.Test.YtobjnhkjahhfnaaDoorPAllx0
import Derived.Test.YtobjnhkjahhfnaaDoorPAllx2
import Derived.Test.YtobjnhkjahhfnaaDoorPAllx8
namespace Go.Proofs.YtobjnhkjahhfnaaDoor.PAll
open Go.RowKit Go.Proofs.YtobjnhkjahhfnaaDoor.XW Go.Proofs.YtobjnhkjahhfnaaDoor.XLib Go.Proofs.YtobjnhkjahhfnaaDoorW.PrintWords Go.Proofs.YtobjnhkjahhfnaaDoorW.PrintLast Go.Proofs.YtobjnhkjahhfnaaDoorW.PrintMore
attribute [local go_sem] max2_int min2_int max_two min_two max_three min_three max_four min_four   -- for this text's walks alone
set_option linter.unusedVariables false
set_option linter.unusedSimpArgs false

/-! ### flows_Begin: function 9 -/
def flows_Begin.f (k:Nat) (a0:Int) (a1:Int) (a2_0:Int) (a2_1:Int) (a2_2:ByteArray):Option (Int × Int × Int × Int × ByteArray × Int × Int × Int × Int × Int × ByteArray × Int × (List (S24)) × Bool × Int):=(machine_First.f a2_0 a2_1 a2_2).bind fun bt168=>((flows_right.f k a0 a1 a2_0 a2_1 a2_2 1 0 0 0 0 (⟨#[]⟩:ByteArray) bt168.1 bt168.2 false).bind fun t173=>(if t173=true then (some (a0,a1,a2_0,a2_1,a2_2,1,0,0,0,0,(⟨#[]⟩:ByteArray),bt168.1,bt168.2,false,0)) else (some (0,0,0,0,(⟨#[]⟩:ByteArray),0,0,0,0,0,(⟨#[]⟩:ByteArray),0,([]:List (S24)),false,4))))
theorem flows_Begin.mono:∀ a0 a1 a2 a3 a4 k,LeO (flows_Begin.f k a0 a1 a2 a3 a4) (flows_Begin.f (k + 1) a0 a1 a2 a3 a4):=by
 intro a0 a1 a2 a3 a4 k
 unfold flows_Begin.f
 repeat' first
   | (with_reducible exact flows_right.mono _ _ _ _ _ _ _ _ _ _ _ _ _ _ _)
   | (with_reducible exact LeO.refl _)
   | (with_reducible exact LeO.none _)
   | (with_reducible refine LeO.ite ?_ ?_)
   | (with_reducible refine LeO.bind ?_ (fun _=>?_))
   | exact flows_right.mono _ _ _ _ _ _ _ _ _ _ _ _ _ _ _
   | exact LeO.none _
   | refine LeO.ite ?_ ?_
   | refine LeO.bind ?_ (fun _=>?_)
def flows_Begin.T1:Bool × List (List Nat × List Nat):=(true,[([],[]),([],[]),([],[]),([],[]),([3],[3]),([0,1,2,4],[0,1,2,4]),([],[]),([6,5,4,0,1,2,3,4,5,6],[5,6])])
def flows_Begin.B1:List Nat:=[0,0,0,0,8,31,0,127]
theorem flows_Begin.tab1:rtab .any (opsOf Tryd.f9 1)=flows_Begin.T1:=by kernel_rfl
theorem flows_Begin.bits1:waitsOk flows_Begin.T1.2 flows_Begin.B1=true:=by kernel_rfl
set_option maxHeartbeats 8000000 in
set_option maxRecDepth 100000 in
theorem flows_Begin.calls (k:Nat) (a0:Int) (a1:Int) (a2_0:Int) (a2_1:Int) (a2_2:ByteArray) (r1:Int) (r2:Int) (r3:Int) (r4:Int) (r5:ByteArray) (r6:Int) (r7:Int) (r8:Int) (r9:Int) (r10:Int) (r11:ByteArray) (r12:Int) (r13:List (S24)) (r14:Bool) (r15:Int) (w:World) (h:flows_Begin.f k a0 a1 a2_0 a2_1 a2_2=some (r1,r2,r3,r4,r5,r6,r7,r8,r9,r10,r11,r12,r13,r14,r15)) :
  Calls Tryd.prog 9 #[.int .i64 a0,.int .i64 a1,.agg #[.int .i64 a2_0,.int .i64 a2_1,.string a2_2]] w fun e w'=>∃ v12_:Value,e=.returned (.tuple #[.agg #[.int .i64 r1,.int .i64 r2,.int .i64 r3,.int .i64 r4,.string r5,.int .i64 r6,.int .i64 r7,.int .i64 r8,.int .i64 r9,.int .i64 r10,.string r11,.int .i64 r12,v12_,.bool r14],.int .i64 r15])∧Kd.R k24 24 w' w.heap.size (fun _=>True) v12_ r13∧Below w.heap.size w w':=by
 have hu24:=Tryd.underlying24
 have hu30:=Tryd.underlying30
 have HB:=Aside0.mk (Below.refl w.heap.size w)
 have H:((machine_First.f a2_0 a2_1 a2_2).bind fun bt168=>((flows_right.f k a0 a1 a2_0 a2_1 a2_2 1 0 0 0 0 (⟨#[]⟩:ByteArray) bt168.1 bt168.2 false).bind fun t173=>(if t173=true then (some (a0,a1,a2_0,a2_1,a2_2,1,0,0,0,0,(⟨#[]⟩:ByteArray),bt168.1,bt168.2,false,0)) else (some (0,0,0,0,(⟨#[]⟩:ByteArray),0,0,0,0,0,(⟨#[]⟩:ByteArray),0,([]:List (S24)),false,4)))))=some (r1,r2,r3,r4,r5,r6,r7,r8,r9,r10,r11,r12,r13,r14,r15):=h
 clear h
 replace H:=Option.bind_eq_some_iff.mp H
 obtain ⟨⟨t168,t169⟩,A40,H⟩:=H
 replace H:((flows_right.f k a0 a1 a2_0 a2_1 a2_2 1 0 0 0 0 (⟨#[]⟩:ByteArray) t168 t169 false).bind fun t173=>(if t173=true then (some (a0,a1,a2_0,a2_1,a2_2,1,0,0,0,0,(⟨#[]⟩:ByteArray),t168,t169,false,0)) else (some (0,0,0,0,(⟨#[]⟩:ByteArray),0,0,0,0,0,(⟨#[]⟩:ByteArray),0,([]:List (S24)),false,4))))=some (r1,r2,r3,r4,r5,r6,r7,r8,r9,r10,r11,r12,r13,r14,r15):=H
 have A4:=Aside0.mk A40
 clear A40
 replace H:=Option.bind_eq_some_iff.mp H
 obtain ⟨t173,A50,H⟩:=H
 replace H:(if t173=true then (some (a0,a1,a2_0,a2_1,a2_2,1,0,0,0,0,(⟨#[]⟩:ByteArray),t168,t169,false,0)) else (some (0,0,0,0,(⟨#[]⟩:ByteArray),0,0,0,0,0,(⟨#[]⟩:ByteArray),0,([]:List (S24)),false,4)))=some (r1,r2,r3,r4,r5,r6,r7,r8,r9,r10,r11,r12,r13,r14,r15):=H
 have A5:=Aside0.mk A50
 clear A50
 by_cases c6:t173=true
 ·subst c6
  have H1:(some (a0,a1,a2_0,a2_1,a2_2,1,0,0,0,0,(⟨#[]⟩:ByteArray),t168,t169,false,0))=some (r1,r2,r3,r4,r5,r6,r7,r8,r9,r10,r11,r12,r13,r14,r15):=by rw [if_pos rfl] at H;exact H
  clear H
  have H:=H1
  clear H1
  simp only [Option.some.injEq,Prod.mk.injEq] at H
  obtain ⟨rfl,rfl,rfl,rfl,rfl,rfl,rfl,rfl,rfl,rfl,rfl,rfl,rfl,rfl,rfl⟩:=H
  go_enter Tryd.func9,Tryd.ntmps9
  try go_wp2_with (first|((with_reducible refine gate_dst (N:=5) rfl ?_);refine box_event ?hg (N:=5) ?hd (cs:=#[.int .i64 a2_0,.int .i64 a2_1,.string a2_2]) (t:=24) ?hr ?_;(case hd=>rfl);(case hg=>rfl);(case hr=>first|(go_simp;done)|(go_simp;rfl));intro gb166 hg w7 hbox hb;have BK166:=Aside0.mk (hbox);have GW166:=Aside0.mk ((by rw [hg];exact (below_size (by repeat (first|(with_reducible first|exact HB.out|apply zl1|apply zl2|apply zl3)|exact HB.out))):w.heap.size≤gb166));have GE166:=Aside0.mk ((by rw [hg];exact (below_size (by repeat (first|(with_reducible first|exact HB.out|apply zl1|apply zl2|apply zl3)|exact HB.out))):w.heap.size≤gb166));replace HB:=Aside0.mk (below_step (by repeat (first|(with_reducible first|exact HB.out|apply zl1|apply zl2|apply zl3)|exact HB.out)) hb);clear hb hbox hg)|((with_reducible refine gate_dst (N:=6) rfl ?_);refine box_event ?hg (N:=6) ?hd (cs:=#[.int .i64 0,.int .i64 0,.int .i64 0,.int .i64 0,.string (⟨#[]⟩:ByteArray),.int .i64 0,.int .i64 0,.int .i64 0,.int .i64 0,.int .i64 0,.string (⟨#[]⟩:ByteArray),.int .i64 0,.slice none 0 0,.bool false]) (t:=30) ?hr ?_;(case hd=>rfl);(case hg=>rfl);(case hr=>first|(go_simp;done)|(go_simp;rfl));intro gb167 hg w8 hbox hb;have BK167:=Aside0.mk (hbox);have GW167:=Aside0.mk ((by rw [hg];exact (below_size (by repeat (first|(with_reducible first|exact HB.out|apply zl1|apply zl2|apply zl3|refine below_set ?_ GE166.out)|exact HB.out))):w.heap.size≤gb167));have GE167:=Aside0.mk ((by rw [hg];exact (below_size (by repeat (first|(with_reducible first|exact HB.out|apply zl1|apply zl2|apply zl3|refine below_set ?_ GE166.out)|exact HB.out))):w.heap.size≤gb167));replace HB:=Aside0.mk (below_step (by repeat (first|(with_reducible first|exact HB.out|apply zl1|apply zl2|apply zl3|refine below_set ?_ GE166.out)|exact HB.out)) hb);have NB166_167:=Aside0.mk ((by rw [hg];exact Nat.ne_of_lt (blk_lt (g:=gb166) (o:=.cells #[.int .i64 a2_0,.int .i64 a2_1,.string a2_2] 24 (0,0)) (by (with_reducible repeat (first|apply zb1|apply zb2|apply zb3));exact BK166.out)):gb166 ≠ gb167));have NB167_166:=Aside0.mk ((by rw [hg];exact Nat.ne_of_gt (blk_lt (g:=gb166) (o:=.cells #[.int .i64 a2_0,.int .i64 a2_1,.string a2_2] 24 (0,0)) (by (with_reducible repeat (first|apply zb1|apply zb2|apply zb3));exact BK166.out)):gb167 ≠ gb166));replace BK166:=Aside0.mk (blk_below (g:=gb166) (o:=.cells #[.int .i64 a2_0,.int .i64 a2_1,.string a2_2] 24 (0,0)) (by (with_reducible repeat (first|apply zb1|apply zb2|apply zb3));exact BK166.out) hb);clear hb hbox hg))
  replace BK166:=Aside0.mk (blk_drew BK166.out)
  replace BK167:=Aside0.mk (blk_drew BK167.out)
  replace HB:=Aside0.mk (below_drew1 HB.out)
  refine start_ (n:=8) (S:=fun w'=>w'.cell? ⟨gb166,0,none⟩=some (.int .i64 a2_0)∧w'.cell? ⟨gb166,1,none⟩=some (.int .i64 a2_1)∧w'.cell? ⟨gb166,2,none⟩=some (.string a2_2)) (ds:=[]) #[false,false,false,false,false,false,false,false] (by kernel_rfl) rfl rfl ⟨(blk_cell BK166.out 0).trans rfl,(blk_cell BK166.out 1).trans rfl,(blk_cell BK166.out 2).trans rfl⟩ (fun hHeld=>?_);refine with_tabW flows_Begin.tab1 flows_Begin.bits1 (fun HT_ HW_=>?_)
  generalize w8.drew=w9 at BK166 BK167 HB hHeld ⊢
  refine pure_ (i:=0) (N:=some 9) (v:=?_) (a':=?_) #[true,false,false,false,false,false,false,false] rfl rfl (any_of HT_.out (by kernel_rfl)) (fun _ _ _ h=>h) (Or.inl ⟨by rfl,?_⟩) ?_ ?_
  rotate_left
  ·intro w'
   go_simp
   with_reducible rfl
  rotate_left
  ·simp only [Act.put,List.setIfInBounds_toArray,List.set_cons_zero,List.set_cons_succ,i64_w,i32_w]
   rfl
  refine pure_ (i:=1) (N:=some 10) (v:=?_) (a':=?_) #[true,true,false,false,false,false,false,false] rfl rfl (any_of HT_.out (by kernel_rfl)) (fun _ _ _ h=>h) (Or.inl ⟨by rfl,?_⟩) ?_ ?_
  rotate_left
  ·intro w'
   go_simp
   with_reducible rfl
  rotate_left
  ·simp only [Act.put,List.setIfInBounds_toArray,List.set_cons_zero,List.set_cons_succ,i64_w,i32_w]
   rfl
  refine take_ (i:=2) (N:=some 11) (v:=?_) (a':=?_) #[true,true,true,false,false,false,false,false] rfl rfl (take_ofW HT_.out HW_.out (by kernel_rfl)) (fun _ _ _ h=>h) (Or.inl ⟨by rfl,?_⟩) hHeld ?_ ?_
  rotate_left
  ·rintro w' ⟨s0,s1,s2⟩
   go_simp
   with_reducible rfl
  rotate_left
  ·simp only [Act.put,List.setIfInBounds_toArray,List.set_cons_zero,List.set_cons_succ,i64_w,i32_w]
   rfl
  refine take_ (i:=3) (N:=some 12) (v:=?_) (a':=?_) #[true,true,true,true,false,false,false,false] rfl rfl (take_ofW HT_.out HW_.out (by kernel_rfl)) (fun _ _ _ h=>h) (Or.inl ⟨by rfl,?_⟩) hHeld ?_ ?_
  rotate_left
  ·rintro w' ⟨s0,s1,s2⟩
   go_simp
   with_reducible rfl
  rotate_left
  ·simp only [Act.put,List.setIfInBounds_toArray,List.set_cons_zero,List.set_cons_succ,i64_w,i32_w]
   rfl
  refine join_ (σ:=Value × Nat) 1 #[true,true,true,true,true,true,true,false] (fun s_=>[(13,.agg #[.int .i64 t168,s_.1]),(8,.pointer (some ⟨s_.2,0,none⟩)),(14,.agg #[.int .i64 a0,.int .i64 a1,.int .i64 a2_0,.int .i64 a2_1,.string a2_2,.int .i64 1,.int .i64 0,.int .i64 0,.int .i64 0,.int .i64 0,.string (⟨#[]⟩:ByteArray),.int .i64 t168,s_.1,.bool false])]) (fun s_ w'=>(w'.cell? ⟨gb166,0,none⟩=some (.int .i64 a2_0)∧w'.cell? ⟨gb166,1,none⟩=some (.int .i64 a2_1)∧w'.cell? ⟨gb166,2,none⟩=some (.string a2_2))∧(Kd.R k24 24 w' w.heap.size (fun k_=>k_ ≠ gb166) s_.1 t169)∧(w'.heap[gb166]?=some (.cells #[.int .i64 a2_0,.int .i64 a2_1,.string a2_2] 24 (0,0)))∧(w'.heap[gb167]?=some (.cells #[.int .i64 0,.int .i64 0,.int .i64 0,.int .i64 0,.string (⟨#[]⟩:ByteArray),.int .i64 0,.int .i64 0,.int .i64 0,.int .i64 0,.int .i64 0,.string (⟨#[]⟩:ByteArray),.int .i64 0,.slice none 0 0,.bool false] 30 (0,0)))∧(w'.heap[s_.2]?=some (.cells #[.int .i64 0,.int .i64 0,.int .i64 0,.int .i64 0,.string (⟨#[]⟩:ByteArray),.int .i64 0,.int .i64 0,.int .i64 0,.int .i64 0,.int .i64 0,.string (⟨#[]⟩:ByteArray),.int .i64 0,.slice none 0 0,.bool false] 30 (0,0)))∧(w.heap.size≤s_.2)∧(w.heap.size≤s_.2)∧(gb166 ≠ s_.2)∧(s_.2 ≠ gb166)∧(gb167 ≠ s_.2)∧(s_.2 ≠ gb167)∧(Below w.heap.size w w')) ?_ ?_
  rotate_left
  ·intro hCont
   refine two_ (i:=4) (j:=6) (Ni:=some 13) (Nj:=some 8) #[true,true,true,true,true,false,false,false] #[true,true,true,true,false,false,true,false] rfl rfl rfl rfl (two_of HT_.out (by kernel_rfl)) (by decide) (by decide) (fun K hK=>?_) (fun K hK=>?_)
   ·skip
    refine goes_ Tryd.func28 (by kernel_rfl) rfl #[.agg #[.int .i64 a2_0,.int .i64 a2_1,.string a2_2]] (by rfl) rfl rfl (by (try simp only [List.map_toArray,List.map_cons,List.map_nil]);first|done|rfl|(simp only [List.length_drop,List.length_take];rfl)|(simp (disch:=omega) only [u64_in];rfl)) ?_
    with_reducible refine (machine_First.calls a2_0 a2_1 a2_2 t168 t169 _ A4.out).mono ?_
    rintro e w10 ⟨v170,rfl,ho0,hb⟩
    refine ⟨_,rfl,?_⟩
    have HO171:=Aside0.mk (Kd.R_lower (Kd.R_newB ho0 (g:=gb166) (o:=.cells #[.int .i64 a2_0,.int .i64 a2_1,.string a2_2] 24 (0,0)) (by (with_reducible repeat (first|apply zb1|apply zb2|apply zb3));exact BK166.out)) (below_size (by repeat (first|(with_reducible first|exact HB.out|apply zl1|apply zl2|apply zl3|refine below_set ?_ GE166.out|refine below_set ?_ GE167.out)|exact HB.out))))
    replace BK166:=Aside0.mk (blk_below (g:=gb166) (o:=.cells #[.int .i64 a2_0,.int .i64 a2_1,.string a2_2] 24 (0,0)) (by (with_reducible repeat (first|apply zb1|apply zb2|apply zb3));exact BK166.out) hb)
    replace BK167:=Aside0.mk (blk_below (g:=gb167) (o:=.cells #[.int .i64 0,.int .i64 0,.int .i64 0,.int .i64 0,.string (⟨#[]⟩:ByteArray),.int .i64 0,.int .i64 0,.int .i64 0,.int .i64 0,.int .i64 0,.string (⟨#[]⟩:ByteArray),.int .i64 0,.slice none 0 0,.bool false] 30 (0,0)) (by (with_reducible repeat (first|apply zb1|apply zb2|apply zb3));exact BK167.out) hb)
    replace HB:=Aside0.mk (below_step (by repeat (first|(with_reducible first|exact HB.out|apply zl1|apply zl2|apply zl3|refine below_set ?_ GE166.out|refine below_set ?_ GE167.out)|exact HB.out)) hb)
    (try clear hb)
    (try clear hb2)
    (try clear hk)
    (try clear hi)
    (try clear ho0)
    obtain ⟨Ao11,co11,eo11⟩:=Kd.R_slice HO171.out
    (first|subst eo11|(injection eo11 with f1_ f2_ f3_;have f4_:=f1_.symm;have f5_:=f3_.symm;clear f1_ f2_ f3_;subst f4_;subst f5_))
    refine hK.out _ _ ⟨(blk_cell BK166.out 0).trans rfl,(blk_cell BK166.out 1).trans rfl,(blk_cell BK166.out 2).trans rfl⟩ (fun hHeld=>?_)
    clear hK K
    refine norm_ (a':=?_) ?_ ?_
    rotate_left
    ·show Act.put _ (some 13) _=_
     simp only [Act.put,List.setIfInBounds_toArray,List.set_cons_zero,List.set_cons_succ,i64_w,i32_w]
     rfl
    refine pure_ (i:=5) (N:=some 14) (v:=?_) (a':=?_) #[true,true,true,true,true,true,false,false] rfl rfl (any_of HT_.out (by kernel_rfl)) (fun _ _ _ h=>h) (Or.inl ⟨by rfl,?_⟩) ?_ ?_
    rotate_left
    ·intro w'
     go_simp
     with_reducible rfl
    rotate_left
    ·simp only [Act.put,List.setIfInBounds_toArray,List.set_cons_zero,List.set_cons_succ,i64_w,i32_w]
     rfl
    refine one_ (i:=6) (N:=some 8) #[true,true,true,true,true,true,true,false] rfl rfl (one_of HT_.out (by kernel_rfl)) (by decide) (fun K hK=>?_)
    refine box_step ?hg (N:=8) ?hd (cs:=#[.int .i64 0,.int .i64 0,.int .i64 0,.int .i64 0,.string (⟨#[]⟩:ByteArray),.int .i64 0,.int .i64 0,.int .i64 0,.int .i64 0,.int .i64 0,.string (⟨#[]⟩:ByteArray),.int .i64 0,.slice none 0 0,.bool false]) (t:=30) ?hr ?_;(case hd=>rfl);(case hg=>rfl);(case hr=>first|(go_simp;done)|(go_simp;rfl))
    intro gb172 hg w12 hbox hb
    replace HO171:=Aside0.mk (Kd.R_below (by (with_reducible repeat (first|apply zk1|apply zk2|apply zk3));exact HO171.out) hb)
    have BK172:=Aside0.mk (hbox)
    have GW172:=Aside0.mk ((by rw [hg];exact (below_size (by repeat (first|(with_reducible first|exact HB.out|apply zl1|apply zl2|apply zl3|refine below_set ?_ GE166.out|refine below_set ?_ GE167.out)|exact HB.out))):w.heap.size≤gb172))
    have GE172:=Aside0.mk ((by rw [hg];exact (below_size (by repeat (first|(with_reducible first|exact HB.out|apply zl1|apply zl2|apply zl3|refine below_set ?_ GE166.out|refine below_set ?_ GE167.out)|exact HB.out))):w.heap.size≤gb172))
    replace HB:=Aside0.mk (below_step (by repeat (first|(with_reducible first|exact HB.out|apply zl1|apply zl2|apply zl3|refine below_set ?_ GE166.out|refine below_set ?_ GE167.out)|exact HB.out)) hb)
    have NB166_172:=Aside0.mk ((by rw [hg];exact Nat.ne_of_lt (blk_lt (g:=gb166) (o:=.cells #[.int .i64 a2_0,.int .i64 a2_1,.string a2_2] 24 (0,0)) (by (with_reducible repeat (first|apply zb1|apply zb2|apply zb3));exact BK166.out)):gb166 ≠ gb172))
    have NB172_166:=Aside0.mk ((by rw [hg];exact Nat.ne_of_gt (blk_lt (g:=gb166) (o:=.cells #[.int .i64 a2_0,.int .i64 a2_1,.string a2_2] 24 (0,0)) (by (with_reducible repeat (first|apply zb1|apply zb2|apply zb3));exact BK166.out)):gb172 ≠ gb166))
    replace BK166:=Aside0.mk (blk_below (g:=gb166) (o:=.cells #[.int .i64 a2_0,.int .i64 a2_1,.string a2_2] 24 (0,0)) (by (with_reducible repeat (first|apply zb1|apply zb2|apply zb3));exact BK166.out) hb)
    have NB167_172:=Aside0.mk ((by rw [hg];exact Nat.ne_of_lt (blk_lt (g:=gb167) (o:=.cells #[.int .i64 0,.int .i64 0,.int .i64 0,.int .i64 0,.string (⟨#[]⟩:ByteArray),.int .i64 0,.int .i64 0,.int .i64 0,.int .i64 0,.int .i64 0,.string (⟨#[]⟩:ByteArray),.int .i64 0,.slice none 0 0,.bool false] 30 (0,0)) (by (with_reducible repeat (first|apply zb1|apply zb2|apply zb3));exact BK167.out)):gb167 ≠ gb172))
    have NB172_167:=Aside0.mk ((by rw [hg];exact Nat.ne_of_gt (blk_lt (g:=gb167) (o:=.cells #[.int .i64 0,.int .i64 0,.int .i64 0,.int .i64 0,.string (⟨#[]⟩:ByteArray),.int .i64 0,.int .i64 0,.int .i64 0,.int .i64 0,.int .i64 0,.string (⟨#[]⟩:ByteArray),.int .i64 0,.slice none 0 0,.bool false] 30 (0,0)) (by (with_reducible repeat (first|apply zb1|apply zb2|apply zb3));exact BK167.out)):gb172 ≠ gb167))
    replace BK167:=Aside0.mk (blk_below (g:=gb167) (o:=.cells #[.int .i64 0,.int .i64 0,.int .i64 0,.int .i64 0,.string (⟨#[]⟩:ByteArray),.int .i64 0,.int .i64 0,.int .i64 0,.int .i64 0,.int .i64 0,.string (⟨#[]⟩:ByteArray),.int .i64 0,.slice none 0 0,.bool false] 30 (0,0)) (by (with_reducible repeat (first|apply zb1|apply zb2|apply zb3));exact BK167.out) hb)
    clear hb hbox hg
    refine hK.out _ _ ⟨(blk_cell BK166.out 0).trans rfl,(blk_cell BK166.out 1).trans rfl,(blk_cell BK166.out 2).trans rfl⟩ (fun hHeld=>?_)
    clear hK K
    refine norm_ (a':=?_) ?_ ?_
    rotate_left
    ·show Act.put _ (some 8) _=_
     simp only [Act.put,List.setIfInBounds_toArray,List.set_cons_zero,List.set_cons_succ,i64_w,i32_w]
     rfl
    exact norm_ (by simp only [putAll,Act.put,List.setIfInBounds_toArray,List.set_cons_zero,List.set_cons_succ]) (hCont (.slice Ao11 t169.length co11,gb172) _ ⟨hHeld,(by (with_reducible repeat (first|apply zk1|apply zk2|apply zk3));exact Kd.R_mono HO171.out (fun _ hk=>hk.2)),(by (with_reducible repeat (first|apply zb1|apply zb2|apply zb3));exact BK166.out),(by (with_reducible repeat (first|apply zb1|apply zb2|apply zb3));exact BK167.out),(by (with_reducible repeat (first|apply zb1|apply zb2|apply zb3));exact BK172.out),GW172.out,GE172.out,NB166_172.out,NB172_166.out,NB167_172.out,NB172_167.out,(by repeat (first|(with_reducible first|exact HB.out|apply zl1|apply zl2|apply zl3|refine below_set ?_ GE166.out|refine below_set ?_ GE167.out|refine below_set ?_ GE172.out)|exact HB.out))⟩)
   ·skip
    refine box_step ?hg (N:=8) ?hd (cs:=#[.int .i64 0,.int .i64 0,.int .i64 0,.int .i64 0,.string (⟨#[]⟩:ByteArray),.int .i64 0,.int .i64 0,.int .i64 0,.int .i64 0,.int .i64 0,.string (⟨#[]⟩:ByteArray),.int .i64 0,.slice none 0 0,.bool false]) (t:=30) ?hr ?_;(case hd=>rfl);(case hg=>rfl);(case hr=>first|(go_simp;done)|(go_simp;rfl))
    intro gb172 hg w10 hbox hb
    have BK172:=Aside0.mk (hbox)
    have GW172:=Aside0.mk ((by rw [hg];exact (below_size (by repeat (first|(with_reducible first|exact HB.out|apply zl1|apply zl2|apply zl3|refine below_set ?_ GE166.out|refine below_set ?_ GE167.out)|exact HB.out))):w.heap.size≤gb172))
    have GE172:=Aside0.mk ((by rw [hg];exact (below_size (by repeat (first|(with_reducible first|exact HB.out|apply zl1|apply zl2|apply zl3|refine below_set ?_ GE166.out|refine below_set ?_ GE167.out)|exact HB.out))):w.heap.size≤gb172))
    replace HB:=Aside0.mk (below_step (by repeat (first|(with_reducible first|exact HB.out|apply zl1|apply zl2|apply zl3|refine below_set ?_ GE166.out|refine below_set ?_ GE167.out)|exact HB.out)) hb)
    have NB166_172:=Aside0.mk ((by rw [hg];exact Nat.ne_of_lt (blk_lt (g:=gb166) (o:=.cells #[.int .i64 a2_0,.int .i64 a2_1,.string a2_2] 24 (0,0)) (by (with_reducible repeat (first|apply zb1|apply zb2|apply zb3));exact BK166.out)):gb166 ≠ gb172))
    have NB172_166:=Aside0.mk ((by rw [hg];exact Nat.ne_of_gt (blk_lt (g:=gb166) (o:=.cells #[.int .i64 a2_0,.int .i64 a2_1,.string a2_2] 24 (0,0)) (by (with_reducible repeat (first|apply zb1|apply zb2|apply zb3));exact BK166.out)):gb172 ≠ gb166))
    replace BK166:=Aside0.mk (blk_below (g:=gb166) (o:=.cells #[.int .i64 a2_0,.int .i64 a2_1,.string a2_2] 24 (0,0)) (by (with_reducible repeat (first|apply zb1|apply zb2|apply zb3));exact BK166.out) hb)
    have NB167_172:=Aside0.mk ((by rw [hg];exact Nat.ne_of_lt (blk_lt (g:=gb167) (o:=.cells #[.int .i64 0,.int .i64 0,.int .i64 0,.int .i64 0,.string (⟨#[]⟩:ByteArray),.int .i64 0,.int .i64 0,.int .i64 0,.int .i64 0,.int .i64 0,.string (⟨#[]⟩:ByteArray),.int .i64 0,.slice none 0 0,.bool false] 30 (0,0)) (by (with_reducible repeat (first|apply zb1|apply zb2|apply zb3));exact BK167.out)):gb167 ≠ gb172))
    have NB172_167:=Aside0.mk ((by rw [hg];exact Nat.ne_of_gt (blk_lt (g:=gb167) (o:=.cells #[.int .i64 0,.int .i64 0,.int .i64 0,.int .i64 0,.string (⟨#[]⟩:ByteArray),.int .i64 0,.int .i64 0,.int .i64 0,.int .i64 0,.int .i64 0,.string (⟨#[]⟩:ByteArray),.int .i64 0,.slice none 0 0,.bool false] 30 (0,0)) (by (with_reducible repeat (first|apply zb1|apply zb2|apply zb3));exact BK167.out)):gb172 ≠ gb167))
    replace BK167:=Aside0.mk (blk_below (g:=gb167) (o:=.cells #[.int .i64 0,.int .i64 0,.int .i64 0,.int .i64 0,.string (⟨#[]⟩:ByteArray),.int .i64 0,.int .i64 0,.int .i64 0,.int .i64 0,.int .i64 0,.string (⟨#[]⟩:ByteArray),.int .i64 0,.slice none 0 0,.bool false] 30 (0,0)) (by (with_reducible repeat (first|apply zb1|apply zb2|apply zb3));exact BK167.out) hb)
    clear hb hbox hg
    refine hK.out _ _ ⟨(blk_cell BK166.out 0).trans rfl,(blk_cell BK166.out 1).trans rfl,(blk_cell BK166.out 2).trans rfl⟩ (fun hHeld=>?_)
    clear hK K
    refine norm_ (a':=?_) ?_ ?_
    rotate_left
    ·show Act.put _ (some 8) _=_
     simp only [Act.put,List.setIfInBounds_toArray,List.set_cons_zero,List.set_cons_succ,i64_w,i32_w]
     rfl
    refine one_ (i:=4) (N:=some 13) #[true,true,true,true,true,false,true,false] rfl rfl (one_of HT_.out (by kernel_rfl)) (by decide) (fun K hK=>?_)
    refine goes_ Tryd.func28 (by kernel_rfl) rfl #[.agg #[.int .i64 a2_0,.int .i64 a2_1,.string a2_2]] (by rfl) rfl rfl (by (try simp only [List.map_toArray,List.map_cons,List.map_nil]);first|done|rfl|(simp only [List.length_drop,List.length_take];rfl)|(simp (disch:=omega) only [u64_in];rfl)) ?_
    with_reducible refine (machine_First.calls a2_0 a2_1 a2_2 t168 t169 _ A4.out).mono ?_
    rintro e w11 ⟨v170,rfl,ho0,hb⟩
    refine ⟨_,rfl,?_⟩
    have HO171:=Aside0.mk (Kd.R_lower (Kd.R_newB ho0 (g:=gb166) (o:=.cells #[.int .i64 a2_0,.int .i64 a2_1,.string a2_2] 24 (0,0)) (by (with_reducible repeat (first|apply zb1|apply zb2|apply zb3));exact BK166.out)) (below_size (by repeat (first|(with_reducible first|exact HB.out|apply zl1|apply zl2|apply zl3|refine below_set ?_ GE166.out|refine below_set ?_ GE167.out|refine below_set ?_ GE172.out)|exact HB.out))))
    replace BK166:=Aside0.mk (blk_below (g:=gb166) (o:=.cells #[.int .i64 a2_0,.int .i64 a2_1,.string a2_2] 24 (0,0)) (by (with_reducible repeat (first|apply zb1|apply zb2|apply zb3));exact BK166.out) hb)
    replace BK167:=Aside0.mk (blk_below (g:=gb167) (o:=.cells #[.int .i64 0,.int .i64 0,.int .i64 0,.int .i64 0,.string (⟨#[]⟩:ByteArray),.int .i64 0,.int .i64 0,.int .i64 0,.int .i64 0,.int .i64 0,.string (⟨#[]⟩:ByteArray),.int .i64 0,.slice none 0 0,.bool false] 30 (0,0)) (by (with_reducible repeat (first|apply zb1|apply zb2|apply zb3));exact BK167.out) hb)
    replace BK172:=Aside0.mk (blk_below (g:=gb172) (o:=.cells #[.int .i64 0,.int .i64 0,.int .i64 0,.int .i64 0,.string (⟨#[]⟩:ByteArray),.int .i64 0,.int .i64 0,.int .i64 0,.int .i64 0,.int .i64 0,.string (⟨#[]⟩:ByteArray),.int .i64 0,.slice none 0 0,.bool false] 30 (0,0)) (by (with_reducible repeat (first|apply zb1|apply zb2|apply zb3));exact BK172.out) hb)
    replace HB:=Aside0.mk (below_step (by repeat (first|(with_reducible first|exact HB.out|apply zl1|apply zl2|apply zl3|refine below_set ?_ GE166.out|refine below_set ?_ GE167.out|refine below_set ?_ GE172.out)|exact HB.out)) hb)
    (try clear hb)
    (try clear hb2)
    (try clear hk)
    (try clear hi)
    (try clear ho0)
    obtain ⟨Ao12,co12,eo12⟩:=Kd.R_slice HO171.out
    (first|subst eo12|(injection eo12 with f1_ f2_ f3_;have f4_:=f1_.symm;have f5_:=f3_.symm;clear f1_ f2_ f3_;subst f4_;subst f5_))
    refine hK.out _ _ ⟨(blk_cell BK166.out 0).trans rfl,(blk_cell BK166.out 1).trans rfl,(blk_cell BK166.out 2).trans rfl⟩ (fun hHeld=>?_)
    clear hK K
    refine norm_ (a':=?_) ?_ ?_
    rotate_left
    ·show Act.put _ (some 13) _=_
     simp only [Act.put,List.setIfInBounds_toArray,List.set_cons_zero,List.set_cons_succ,i64_w,i32_w]
     rfl
    refine pure_ (i:=5) (N:=some 14) (v:=?_) (a':=?_) #[true,true,true,true,true,true,true,false] rfl rfl (any_of HT_.out (by kernel_rfl)) (fun _ _ _ h=>h) (Or.inl ⟨by rfl,?_⟩) ?_ ?_
    rotate_left
    ·intro w'
     go_simp
     with_reducible rfl
    rotate_left
    ·simp only [Act.put,List.setIfInBounds_toArray,List.set_cons_zero,List.set_cons_succ,i64_w,i32_w]
     rfl
    exact norm_ (by simp only [putAll,Act.put,List.setIfInBounds_toArray,List.set_cons_zero,List.set_cons_succ]) (hCont (.slice Ao12 t169.length co12,gb172) _ ⟨hHeld,(by (with_reducible repeat (first|apply zk1|apply zk2|apply zk3));exact Kd.R_mono HO171.out (fun _ hk=>hk.2)),(by (with_reducible repeat (first|apply zb1|apply zb2|apply zb3));exact BK166.out),(by (with_reducible repeat (first|apply zb1|apply zb2|apply zb3));exact BK167.out),(by (with_reducible repeat (first|apply zb1|apply zb2|apply zb3));exact BK172.out),GW172.out,GE172.out,NB166_172.out,NB172_166.out,NB167_172.out,NB172_167.out,(by repeat (first|(with_reducible first|exact HB.out|apply zl1|apply zl2|apply zl3|refine below_set ?_ GE166.out|refine below_set ?_ GE167.out|refine below_set ?_ GE172.out)|exact HB.out))⟩)
  rintro ⟨v170,gb172⟩ w13 ⟨hS_,h0_,h1_,h2_,h3_,h4_,h5_,h6_,h7_,h8_,h9_,h10_⟩
  have n0_:Aside0 (Kd.R k24 24 w13 w.heap.size (fun k_=>k_ ≠ gb166) v170 t169):=⟨h0_⟩
  have n1_:Aside0 (w13.heap[gb166]?=some (.cells #[.int .i64 a2_0,.int .i64 a2_1,.string a2_2] 24 (0,0))):=⟨h1_⟩
  have n2_:Aside0 (w13.heap[gb167]?=some (.cells #[.int .i64 0,.int .i64 0,.int .i64 0,.int .i64 0,.string (⟨#[]⟩:ByteArray),.int .i64 0,.int .i64 0,.int .i64 0,.int .i64 0,.int .i64 0,.string (⟨#[]⟩:ByteArray),.int .i64 0,.slice none 0 0,.bool false] 30 (0,0))):=⟨h2_⟩
  have n3_:Aside0 (w13.heap[gb172]?=some (.cells #[.int .i64 0,.int .i64 0,.int .i64 0,.int .i64 0,.string (⟨#[]⟩:ByteArray),.int .i64 0,.int .i64 0,.int .i64 0,.int .i64 0,.int .i64 0,.string (⟨#[]⟩:ByteArray),.int .i64 0,.slice none 0 0,.bool false] 30 (0,0))):=⟨h3_⟩
  have n4_:Aside0 (w.heap.size≤gb172):=⟨h4_⟩
  have n5_:Aside0 (w.heap.size≤gb172):=⟨h5_⟩
  have n6_:Aside0 (gb166 ≠ gb172):=⟨h6_⟩
  have n7_:Aside0 (gb172 ≠ gb166):=⟨h7_⟩
  have n8_:Aside0 (gb167 ≠ gb172):=⟨h8_⟩
  have n9_:Aside0 (gb172 ≠ gb167):=⟨h9_⟩
  have n10_:Aside0 (Below w.heap.size w w13):=⟨h10_⟩
  clear BK166
  clear BK167
  clear HB
  clear h0_ h1_ h2_ h3_ h4_ h5_ h6_ h7_ h8_ h9_ h10_
  have HO171:=n0_
  have BK166:=n1_
  have BK167:=n2_
  have BK172:=n3_
  have GW172:=n4_
  have GE172:=n5_
  have NB166_172:=n6_
  have NB172_166:=n7_
  have NB167_172:=n8_
  have NB172_167:=n9_
  have HB:=n10_
  clear n0_ n1_ n2_ n3_ n4_ n5_ n6_ n7_ n8_ n9_ n10_
  have hHeld:w13.cell? ⟨gb166,0,none⟩=some (.int .i64 a2_0)∧w13.cell? ⟨gb166,1,none⟩=some (.int .i64 a2_1)∧w13.cell? ⟨gb166,2,none⟩=some (.string a2_2):=hS_
  obtain ⟨Ao14,co14,eo14⟩:=Kd.R_slice HO171.out
  (first|subst eo14|(injection eo14 with f1_ f2_ f3_;have f4_:=f1_.symm;have f5_:=f3_.symm;clear f1_ f2_ f3_;subst f4_;subst f5_))
  refine norm_ (a':=?_) ?_ ?_
  rotate_left
  ·simp only [putAll,Act.put,List.setIfInBounds_toArray,List.set_cons_zero,List.set_cons_succ]
   rfl
  refine one_ (i:=7) (N:=none) #[true,true,true,true,true,true,true,true] rfl rfl (one_of HT_.out (by kernel_rfl)) (by decide) (fun K hK=>?_)
  have hs15:w13.cell? ⟨gb172,0,none⟩=some (.int .i64 0):=(blk_cell BK172.out 0).trans rfl
  have hfs15:=blk_frozen BK172.out 0
  have hns15_0:=NB166_172.out
  have hns15_1:=NB167_172.out
  have hms15_0:=NB172_166.out
  have hms15_1:=NB172_167.out
  have hs16:w13.cell? ⟨gb172,1,none⟩=some (.int .i64 0):=(blk_cell BK172.out 1).trans rfl
  have hfs16:=blk_frozen BK172.out 1
  have hns16_0:=NB166_172.out
  have hns16_1:=NB167_172.out
  have hms16_0:=NB172_166.out
  have hms16_1:=NB172_167.out
  have hs17:w13.cell? ⟨gb172,2,none⟩=some (.int .i64 0):=(blk_cell BK172.out 2).trans rfl
  have hfs17:=blk_frozen BK172.out 2
  have hns17_0:=NB166_172.out
  have hns17_1:=NB167_172.out
  have hms17_0:=NB172_166.out
  have hms17_1:=NB172_167.out
  have hs18:w13.cell? ⟨gb172,3,none⟩=some (.int .i64 0):=(blk_cell BK172.out 3).trans rfl
  have hfs18:=blk_frozen BK172.out 3
  have hns18_0:=NB166_172.out
  have hns18_1:=NB167_172.out
  have hms18_0:=NB172_166.out
  have hms18_1:=NB172_167.out
  have hs19:w13.cell? ⟨gb172,4,none⟩=some (.string (⟨#[]⟩:ByteArray)):=(blk_cell BK172.out 4).trans rfl
  have hfs19:=blk_frozen BK172.out 4
  have hns19_0:=NB166_172.out
  have hns19_1:=NB167_172.out
  have hms19_0:=NB172_166.out
  have hms19_1:=NB172_167.out
  have hs20:w13.cell? ⟨gb172,5,none⟩=some (.int .i64 0):=(blk_cell BK172.out 5).trans rfl
  have hfs20:=blk_frozen BK172.out 5
  have hns20_0:=NB166_172.out
  have hns20_1:=NB167_172.out
  have hms20_0:=NB172_166.out
  have hms20_1:=NB172_167.out
  have hs21:w13.cell? ⟨gb172,6,none⟩=some (.int .i64 0):=(blk_cell BK172.out 6).trans rfl
  have hfs21:=blk_frozen BK172.out 6
  have hns21_0:=NB166_172.out
  have hns21_1:=NB167_172.out
  have hms21_0:=NB172_166.out
  have hms21_1:=NB172_167.out
  have hs22:w13.cell? ⟨gb172,7,none⟩=some (.int .i64 0):=(blk_cell BK172.out 7).trans rfl
  have hfs22:=blk_frozen BK172.out 7
  have hns22_0:=NB166_172.out
  have hns22_1:=NB167_172.out
  have hms22_0:=NB172_166.out
  have hms22_1:=NB172_167.out
  have hs23:w13.cell? ⟨gb172,8,none⟩=some (.int .i64 0):=(blk_cell BK172.out 8).trans rfl
  have hfs23:=blk_frozen BK172.out 8
  have hns23_0:=NB166_172.out
  have hns23_1:=NB167_172.out
  have hms23_0:=NB172_166.out
  have hms23_1:=NB172_167.out
  have hs24:w13.cell? ⟨gb172,9,none⟩=some (.int .i64 0):=(blk_cell BK172.out 9).trans rfl
  have hfs24:=blk_frozen BK172.out 9
  have hns24_0:=NB166_172.out
  have hns24_1:=NB167_172.out
  have hms24_0:=NB172_166.out
  have hms24_1:=NB172_167.out
  have hs25:w13.cell? ⟨gb172,10,none⟩=some (.string (⟨#[]⟩:ByteArray)):=(blk_cell BK172.out 10).trans rfl
  have hfs25:=blk_frozen BK172.out 10
  have hns25_0:=NB166_172.out
  have hns25_1:=NB167_172.out
  have hms25_0:=NB172_166.out
  have hms25_1:=NB172_167.out
  have hs26:w13.cell? ⟨gb172,11,none⟩=some (.int .i64 0):=(blk_cell BK172.out 11).trans rfl
  have hfs26:=blk_frozen BK172.out 11
  have hns26_0:=NB166_172.out
  have hns26_1:=NB167_172.out
  have hms26_0:=NB172_166.out
  have hms26_1:=NB172_167.out
  have hs27:w13.cell? ⟨gb172,12,none⟩=some (.slice none 0 0):=(blk_cell BK172.out 12).trans rfl
  have hfs27:=blk_frozen BK172.out 12
  have hns27_0:=NB166_172.out
  have hns27_1:=NB167_172.out
  have hms27_0:=NB172_166.out
  have hms27_1:=NB172_167.out
  have hs28:w13.cell? ⟨gb172,13,none⟩=some (.bool false):=(blk_cell BK172.out 13).trans rfl
  have hfs28:=blk_frozen BK172.out 13
  have hns28_0:=NB166_172.out
  have hns28_1:=NB167_172.out
  have hms28_0:=NB172_166.out
  have hms28_1:=NB172_167.out
  refine skip_ (w1:=?_) (by rfl) rfl ?_ ?_
  rotate_left
  ·go_simp
   rfl
  refine hK.out _ _ ⟨((cell_far (p:=⟨gb172,_,none⟩) NB166_172.out _).trans (((cell_far (p:=⟨gb172,_,none⟩) NB166_172.out _).trans (((cell_far (p:=⟨gb172,_,none⟩) NB166_172.out _).trans (((cell_far (p:=⟨gb172,_,none⟩) NB166_172.out _).trans (((cell_far (p:=⟨gb172,_,none⟩) NB166_172.out _).trans (((cell_far (p:=⟨gb172,_,none⟩) NB166_172.out _).trans (((cell_far (p:=⟨gb172,_,none⟩) NB166_172.out _).trans (((cell_far (p:=⟨gb172,_,none⟩) NB166_172.out _).trans (((cell_far (p:=⟨gb172,_,none⟩) NB166_172.out _).trans (((cell_far (p:=⟨gb172,_,none⟩) NB166_172.out _).trans (((cell_far (p:=⟨gb172,_,none⟩) NB166_172.out _).trans (((cell_far (p:=⟨gb172,_,none⟩) NB166_172.out _).trans (((cell_far (p:=⟨gb172,_,none⟩) NB166_172.out _).trans (((cell_far (p:=⟨gb172,_,none⟩) NB166_172.out _).trans (hHeld.1)))))))))))))))))))))))))))),((cell_far (p:=⟨gb172,_,none⟩) NB166_172.out _).trans (((cell_far (p:=⟨gb172,_,none⟩) NB166_172.out _).trans (((cell_far (p:=⟨gb172,_,none⟩) NB166_172.out _).trans (((cell_far (p:=⟨gb172,_,none⟩) NB166_172.out _).trans (((cell_far (p:=⟨gb172,_,none⟩) NB166_172.out _).trans (((cell_far (p:=⟨gb172,_,none⟩) NB166_172.out _).trans (((cell_far (p:=⟨gb172,_,none⟩) NB166_172.out _).trans (((cell_far (p:=⟨gb172,_,none⟩) NB166_172.out _).trans (((cell_far (p:=⟨gb172,_,none⟩) NB166_172.out _).trans (((cell_far (p:=⟨gb172,_,none⟩) NB166_172.out _).trans (((cell_far (p:=⟨gb172,_,none⟩) NB166_172.out _).trans (((cell_far (p:=⟨gb172,_,none⟩) NB166_172.out _).trans (((cell_far (p:=⟨gb172,_,none⟩) NB166_172.out _).trans (((cell_far (p:=⟨gb172,_,none⟩) NB166_172.out _).trans (hHeld.2.1)))))))))))))))))))))))))))),((cell_far (p:=⟨gb172,_,none⟩) NB166_172.out _).trans (((cell_far (p:=⟨gb172,_,none⟩) NB166_172.out _).trans (((cell_far (p:=⟨gb172,_,none⟩) NB166_172.out _).trans (((cell_far (p:=⟨gb172,_,none⟩) NB166_172.out _).trans (((cell_far (p:=⟨gb172,_,none⟩) NB166_172.out _).trans (((cell_far (p:=⟨gb172,_,none⟩) NB166_172.out _).trans (((cell_far (p:=⟨gb172,_,none⟩) NB166_172.out _).trans (((cell_far (p:=⟨gb172,_,none⟩) NB166_172.out _).trans (((cell_far (p:=⟨gb172,_,none⟩) NB166_172.out _).trans (((cell_far (p:=⟨gb172,_,none⟩) NB166_172.out _).trans (((cell_far (p:=⟨gb172,_,none⟩) NB166_172.out _).trans (((cell_far (p:=⟨gb172,_,none⟩) NB166_172.out _).trans (((cell_far (p:=⟨gb172,_,none⟩) NB166_172.out _).trans (((cell_far (p:=⟨gb172,_,none⟩) NB166_172.out _).trans (hHeld.2.2))))))))))))))))))))))))))))⟩ (fun hHeld=>?_)
  clear hK K
  refine done_ (done_of HT_.out (by kernel_rfl)) ?_
  have hnb29:=NB172_166.out
  have hnc29:=NB166_172.out
  have hnb30:=NB172_167.out
  have hnc30:=NB167_172.out
  obtain ⟨hcz31_0,hcz31_1,hcz31_2,hcz31_3,hcz31_4,hcz31_5,hcz31_6,hcz31_7,hcz31_8,hcz31_9,hcz31_10,hcz31_11,hcz31_12,hcz31_13⟩:=zc14 BK172.out
  obtain ⟨hfz31_0,hfz31_1,hfz31_2,hfz31_3,hfz31_4,hfz31_5,hfz31_6,hfz31_7,hfz31_8,hfz31_9,hfz31_10,hfz31_11,hfz31_12,hfz31_13⟩:=zf14 BK172.out
  try go_wp2_with (first|((with_reducible refine gate_callee (f:=29) rfl ?_);refine goesL_ (some 16) rfl rfl Tryd.func29 (by kernel_rfl) rfl #[.agg #[.int .i64 a0,.int .i64 a1,.int .i64 a2_0,.int .i64 a2_1,.string a2_2,.int .i64 1,.int .i64 0,.int .i64 0,.int .i64 0,.int .i64 0,.string (⟨#[]⟩:ByteArray),.int .i64 t168,.slice Ao14 t169.length co14,.bool false]] rfl (by (try simp only [List.map_toArray,List.map_cons,List.map_nil]);first|done|rfl|(simp only [List.length_drop,List.length_take];rfl)|(simp (disch:=omega) only [u64_in];rfl)) ?_;(with_reducible refine (flows_right.calls k a0 a1 a2_0 a2_1 a2_2 1 0 0 0 0 (⟨#[]⟩:ByteArray) t168 _ _ t169 false true _ ?side1 ?side2 A5.out).mono ?_);(case side1=>refine (Kd.R_reads' (e:=24) (base:=w.heap.size) (ok:=fun k_=>k_ ≠ gb166) (n:=t169.length) (c:=co14) ?_).2.2;exact (by (with_reducible repeat (first|apply zk1|apply zk2|apply zk3));exact (Kd.R_mono (Kd.R_far (p:=⟨gb172,13,none⟩) (Kd.R_far (p:=⟨gb172,12,none⟩) (Kd.R_far (p:=⟨gb172,11,none⟩) (Kd.R_far (p:=⟨gb172,10,none⟩) (Kd.R_far (p:=⟨gb172,9,none⟩) (Kd.R_far (p:=⟨gb172,8,none⟩) (Kd.R_far (p:=⟨gb172,7,none⟩) (Kd.R_far (p:=⟨gb172,6,none⟩) (Kd.R_far (p:=⟨gb172,5,none⟩) (Kd.R_far (p:=⟨gb172,4,none⟩) (Kd.R_far (p:=⟨gb172,3,none⟩) (Kd.R_far (p:=⟨gb172,2,none⟩) (Kd.R_far (p:=⟨gb172,1,none⟩) (Kd.R_far (p:=⟨gb172,0,none⟩) (Kd.R_types HO171.out BK172.out (by decide)) (fun _ hk=>hk.2) (.int .i64 a0)) (fun _ hk=>hk.2) (.int .i64 a1)) (fun _ hk=>hk.2) (.int .i64 a2_0)) (fun _ hk=>hk.2) (.int .i64 a2_1)) (fun _ hk=>hk.2) (.string a2_2)) (fun _ hk=>hk.2) (.int .i64 1)) (fun _ hk=>hk.2) (.int .i64 0)) (fun _ hk=>hk.2) (.int .i64 0)) (fun _ hk=>hk.2) (.int .i64 0)) (fun _ hk=>hk.2) (.int .i64 0)) (fun _ hk=>hk.2) (.string (⟨#[]⟩:ByteArray))) (fun _ hk=>hk.2) (.int .i64 t168)) (fun _ hk=>hk.2) (.slice Ao14 t169.length co14)) (fun _ hk=>hk.2) (.bool false)) (fun _ h_=>h_.1))));(case side2=>exact (Kd.R_reads' HO171.out).2.1);rintro e w32 ⟨rfl,hb⟩;refine ⟨_,rfl,?_⟩;replace HO171:=Aside0.mk (Kd.R_below (by (with_reducible repeat (first|apply zk1|apply zk2|apply zk3));exact (Kd.R_mono (Kd.R_far (p:=⟨gb172,13,none⟩) (Kd.R_far (p:=⟨gb172,12,none⟩) (Kd.R_far (p:=⟨gb172,11,none⟩) (Kd.R_far (p:=⟨gb172,10,none⟩) (Kd.R_far (p:=⟨gb172,9,none⟩) (Kd.R_far (p:=⟨gb172,8,none⟩) (Kd.R_far (p:=⟨gb172,7,none⟩) (Kd.R_far (p:=⟨gb172,6,none⟩) (Kd.R_far (p:=⟨gb172,5,none⟩) (Kd.R_far (p:=⟨gb172,4,none⟩) (Kd.R_far (p:=⟨gb172,3,none⟩) (Kd.R_far (p:=⟨gb172,2,none⟩) (Kd.R_far (p:=⟨gb172,1,none⟩) (Kd.R_far (p:=⟨gb172,0,none⟩) (Kd.R_types HO171.out BK172.out (by decide)) (fun _ hk=>hk.2) (.int .i64 a0)) (fun _ hk=>hk.2) (.int .i64 a1)) (fun _ hk=>hk.2) (.int .i64 a2_0)) (fun _ hk=>hk.2) (.int .i64 a2_1)) (fun _ hk=>hk.2) (.string a2_2)) (fun _ hk=>hk.2) (.int .i64 1)) (fun _ hk=>hk.2) (.int .i64 0)) (fun _ hk=>hk.2) (.int .i64 0)) (fun _ hk=>hk.2) (.int .i64 0)) (fun _ hk=>hk.2) (.int .i64 0)) (fun _ hk=>hk.2) (.string (⟨#[]⟩:ByteArray))) (fun _ hk=>hk.2) (.int .i64 t168)) (fun _ hk=>hk.2) (.slice Ao14 t169.length co14)) (fun _ hk=>hk.2) (.bool false)) (fun _ h_=>h_.1))) hb);replace BK166:=Aside0.mk (blk_below (g:=gb166) (o:=.cells #[.int .i64 a2_0,.int .i64 a2_1,.string a2_2] 24 (0,0)) (by (repeat (first|(with_reducible first|apply zb1|apply zb2|apply zb3|exact BK166.out)|refine blk_far ?_ NB166_172.out _))) hb);replace BK167:=Aside0.mk (blk_below (g:=gb167) (o:=.cells #[.int .i64 0,.int .i64 0,.int .i64 0,.int .i64 0,.string (⟨#[]⟩:ByteArray),.int .i64 0,.int .i64 0,.int .i64 0,.int .i64 0,.int .i64 0,.string (⟨#[]⟩:ByteArray),.int .i64 0,.slice none 0 0,.bool false] 30 (0,0)) (by (repeat (first|(with_reducible first|apply zb1|apply zb2|apply zb3|exact BK167.out)|refine blk_far ?_ NB167_172.out _))) hb);replace BK172:=Aside0.mk (blk_below (g:=gb172) (o:=.cells #[.int .i64 a0,.int .i64 a1,.int .i64 a2_0,.int .i64 a2_1,.string a2_2,.int .i64 1,.int .i64 0,.int .i64 0,.int .i64 0,.int .i64 0,.string (⟨#[]⟩:ByteArray),.int .i64 t168,.slice Ao14 t169.length co14,.bool false] 30 (0,0)) (by apply zpe;(repeat (first|(with_reducible first|apply zb1|apply zb2|apply zb3|apply zpi|exact BK172.out)));rfl) hb);replace HB:=Aside0.mk (below_step (by repeat (first|(with_reducible first|exact HB.out|apply zl1|apply zl2|apply zl3|refine below_set ?_ GE166.out|refine below_set ?_ GE167.out|refine below_set ?_ GE172.out)|exact HB.out)) hb);(try clear hb);obtain ⟨hcz33_0,hcz33_1,hcz33_2,hcz33_3,hcz33_4,hcz33_5,hcz33_6,hcz33_7,hcz33_8,hcz33_9,hcz33_10,hcz33_11,hcz33_12,hcz33_13⟩:=zc14 BK172.out;obtain ⟨hfz33_0,hfz33_1,hfz33_2,hfz33_3,hfz33_4,hfz33_5,hfz33_6,hfz33_7,hfz33_8,hfz33_9,hfz33_10,hfz33_11,hfz33_12,hfz33_13⟩:=zf14 BK172.out)|((with_reducible refine gate_store (t:=30) (p:=6) rfl ?_);refine store_all 30 gb167 30 #[.int .i64 0,.int .i64 0,.int .i64 0,.int .i64 0,.string (⟨#[]⟩:ByteArray),.int .i64 0,.int .i64 0,.int .i64 0,.int .i64 0,.int .i64 0,.string (⟨#[]⟩:ByteArray),.int .i64 0,.slice none 0 0,.bool false] #[.int .i64 a0,.int .i64 a1,.int .i64 a2_0,.int .i64 a2_1,.string a2_2,.int .i64 1,.int .i64 0,.int .i64 0,.int .i64 0,.int .i64 0,.string (⟨#[]⟩:ByteArray),.int .i64 t168,.slice Ao14 t169.length co14,.bool false] rfl rfl rfl (by first|rfl|(go_simp;done)) (by (with_reducible repeat (first|apply zb1|apply zb2|apply zb3));exact BK167.out) (by kernel_rfl) rfl (by kernel_rfl) ?_;intro w34 hx hg;replace BK166:=Aside0.mk (blk_grown (g:=gb166) (o:=.cells #[.int .i64 a2_0,.int .i64 a2_1,.string a2_2] 24 (0,0)) (by (with_reducible repeat (first|apply zb1|apply zb2|apply zb3));exact BK166.out) hg (fun e_=>NB166_167.out (Option.some.inj e_)));replace HO171:=Aside0.mk (Kd.R_mono (Kd.R_grown (Kd.R_types HO171.out BK167.out (by decide)) hg (fun k_ hk_ he_=>(hk_.2) (Option.some.inj he_))) (fun _ h_=>h_.1));replace BK172:=Aside0.mk (blk_grown (g:=gb172) (o:=.cells #[.int .i64 a0,.int .i64 a1,.int .i64 a2_0,.int .i64 a2_1,.string a2_2,.int .i64 1,.int .i64 0,.int .i64 0,.int .i64 0,.int .i64 0,.string (⟨#[]⟩:ByteArray),.int .i64 t168,.slice Ao14 t169.length co14,.bool false] 30 (0,0)) (by (with_reducible repeat (first|apply zb1|apply zb2|apply zb3));exact BK172.out) hg (fun e_=>NB172_167.out (Option.some.inj e_)));replace HB:=Aside0.mk ((fun {W_:World} (hB_:Below w.heap.size w W_) (hg_:W_.grownBy w34 (some gb167))=>hB_.grown hg_ hB_.size (fun k_ e_=>by cases e_;exact GE167.out)) (by repeat (first|(with_reducible first|exact HB.out|apply zl1|apply zl2|apply zl3|refine below_set ?_ GE166.out|refine below_set ?_ GE167.out|refine below_set ?_ GE172.out)|exact HB.out)) hg);replace BK167:=Aside0.mk (hx);clear hx hg))
  refine bodyPost_ret (results_ct rfl _ _ gb167 30 #[.int .i64 a0,.int .i64 a1,.int .i64 a2_0,.int .i64 a2_1,.string a2_2,.int .i64 1,.int .i64 0,.int .i64 0,.int .i64 0,.int .i64 0,.string (⟨#[]⟩:ByteArray),.int .i64 t168,.slice Ao14 t169.length co14,.bool false] (0,0) _ rfl (by (with_reducible repeat (first|apply zb1|apply zb2|apply zb3));exact BK167.out) Tryd.underlying30 rfl (by kernel_rfl)) rfl ?_
  exact ⟨_,by first|(with_reducible rfl)|(simp only [isEmpty_bne,Bool.not_not] <;> rfl)|rfl|(simp [*,errW_none,errW_some] <;> rfl),by (with_reducible repeat (first|apply zk1|apply zk2|apply zk3));exact Kd.R_mono HO171.out (fun _ hk=>trivial),by repeat (first|(with_reducible first|exact HB.out|apply zl1|apply zl2|apply zl3|refine below_set ?_ GE166.out|refine below_set ?_ GE167.out|refine below_set ?_ GE172.out)|exact HB.out)⟩
 ·replace c6:=Bool.eq_false_iff.mpr c6
  subst c6
  have H1:(some (0,0,0,0,(⟨#[]⟩:ByteArray),0,0,0,0,0,(⟨#[]⟩:ByteArray),0,([]:List (S24)),false,4))=some (r1,r2,r3,r4,r5,r6,r7,r8,r9,r10,r11,r12,r13,r14,r15):=by rw [if_neg (show ¬ (false=true) by decide)] at H;exact H
  clear H
  have H:=H1
  clear H1
  simp only [Option.some.injEq,Prod.mk.injEq] at H
  obtain ⟨rfl,rfl,rfl,rfl,rfl,rfl,rfl,rfl,rfl,rfl,rfl,rfl,rfl,rfl,rfl⟩:=H
  go_enter Tryd.func9,Tryd.ntmps9
  try go_wp2_with (first|((with_reducible refine gate_dst (N:=5) rfl ?_);refine box_event ?hg (N:=5) ?hd (cs:=#[.int .i64 a2_0,.int .i64 a2_1,.string a2_2]) (t:=24) ?hr ?_;(case hd=>rfl);(case hg=>rfl);(case hr=>first|(go_simp;done)|(go_simp;rfl));intro gb166 hg w35 hbox hb;have BK166:=Aside0.mk (hbox);have GW166:=Aside0.mk ((by rw [hg];exact (below_size (by repeat (first|(with_reducible first|exact HB.out|apply zl1|apply zl2|apply zl3)|exact HB.out))):w.heap.size≤gb166));have GE166:=Aside0.mk ((by rw [hg];exact (below_size (by repeat (first|(with_reducible first|exact HB.out|apply zl1|apply zl2|apply zl3)|exact HB.out))):w.heap.size≤gb166));replace HB:=Aside0.mk (below_step (by repeat (first|(with_reducible first|exact HB.out|apply zl1|apply zl2|apply zl3)|exact HB.out)) hb);clear hb hbox hg)|((with_reducible refine gate_dst (N:=6) rfl ?_);refine box_event ?hg (N:=6) ?hd (cs:=#[.int .i64 0,.int .i64 0,.int .i64 0,.int .i64 0,.string (⟨#[]⟩:ByteArray),.int .i64 0,.int .i64 0,.int .i64 0,.int .i64 0,.int .i64 0,.string (⟨#[]⟩:ByteArray),.int .i64 0,.slice none 0 0,.bool false]) (t:=30) ?hr ?_;(case hd=>rfl);(case hg=>rfl);(case hr=>first|(go_simp;done)|(go_simp;rfl));intro gb167 hg w36 hbox hb;have BK167:=Aside0.mk (hbox);have GW167:=Aside0.mk ((by rw [hg];exact (below_size (by repeat (first|(with_reducible first|exact HB.out|apply zl1|apply zl2|apply zl3|refine below_set ?_ GE166.out)|exact HB.out))):w.heap.size≤gb167));have GE167:=Aside0.mk ((by rw [hg];exact (below_size (by repeat (first|(with_reducible first|exact HB.out|apply zl1|apply zl2|apply zl3|refine below_set ?_ GE166.out)|exact HB.out))):w.heap.size≤gb167));replace HB:=Aside0.mk (below_step (by repeat (first|(with_reducible first|exact HB.out|apply zl1|apply zl2|apply zl3|refine below_set ?_ GE166.out)|exact HB.out)) hb);have NB166_167:=Aside0.mk ((by rw [hg];exact Nat.ne_of_lt (blk_lt (g:=gb166) (o:=.cells #[.int .i64 a2_0,.int .i64 a2_1,.string a2_2] 24 (0,0)) (by (with_reducible repeat (first|apply zb1|apply zb2|apply zb3));exact BK166.out)):gb166 ≠ gb167));have NB167_166:=Aside0.mk ((by rw [hg];exact Nat.ne_of_gt (blk_lt (g:=gb166) (o:=.cells #[.int .i64 a2_0,.int .i64 a2_1,.string a2_2] 24 (0,0)) (by (with_reducible repeat (first|apply zb1|apply zb2|apply zb3));exact BK166.out)):gb167 ≠ gb166));replace BK166:=Aside0.mk (blk_below (g:=gb166) (o:=.cells #[.int .i64 a2_0,.int .i64 a2_1,.string a2_2] 24 (0,0)) (by (with_reducible repeat (first|apply zb1|apply zb2|apply zb3));exact BK166.out) hb);clear hb hbox hg))
  replace BK166:=Aside0.mk (blk_drew BK166.out)
  replace BK167:=Aside0.mk (blk_drew BK167.out)
  replace HB:=Aside0.mk (below_drew1 HB.out)
  refine start_ (n:=8) (S:=fun w'=>w'.cell? ⟨gb166,0,none⟩=some (.int .i64 a2_0)∧w'.cell? ⟨gb166,1,none⟩=some (.int .i64 a2_1)∧w'.cell? ⟨gb166,2,none⟩=some (.string a2_2)) (ds:=[]) #[false,false,false,false,false,false,false,false] (by kernel_rfl) rfl rfl ⟨(blk_cell BK166.out 0).trans rfl,(blk_cell BK166.out 1).trans rfl,(blk_cell BK166.out 2).trans rfl⟩ (fun hHeld=>?_);refine with_tabW flows_Begin.tab1 flows_Begin.bits1 (fun HT_ HW_=>?_)
  generalize w36.drew=w37 at BK166 BK167 HB hHeld ⊢
  refine pure_ (i:=0) (N:=some 9) (v:=?_) (a':=?_) #[true,false,false,false,false,false,false,false] rfl rfl (any_of HT_.out (by kernel_rfl)) (fun _ _ _ h=>h) (Or.inl ⟨by rfl,?_⟩) ?_ ?_
  rotate_left
  ·intro w'
   go_simp
   with_reducible rfl
  rotate_left
  ·simp only [Act.put,List.setIfInBounds_toArray,List.set_cons_zero,List.set_cons_succ,i64_w,i32_w]
   rfl
  refine pure_ (i:=1) (N:=some 10) (v:=?_) (a':=?_) #[true,true,false,false,false,false,false,false] rfl rfl (any_of HT_.out (by kernel_rfl)) (fun _ _ _ h=>h) (Or.inl ⟨by rfl,?_⟩) ?_ ?_
  rotate_left
  ·intro w'
   go_simp
   with_reducible rfl
  rotate_left
  ·simp only [Act.put,List.setIfInBounds_toArray,List.set_cons_zero,List.set_cons_succ,i64_w,i32_w]
   rfl
  refine take_ (i:=2) (N:=some 11) (v:=?_) (a':=?_) #[true,true,true,false,false,false,false,false] rfl rfl (take_ofW HT_.out HW_.out (by kernel_rfl)) (fun _ _ _ h=>h) (Or.inl ⟨by rfl,?_⟩) hHeld ?_ ?_
  rotate_left
  ·rintro w' ⟨s0,s1,s2⟩
   go_simp
   with_reducible rfl
  rotate_left
  ·simp only [Act.put,List.setIfInBounds_toArray,List.set_cons_zero,List.set_cons_succ,i64_w,i32_w]
   rfl
  refine take_ (i:=3) (N:=some 12) (v:=?_) (a':=?_) #[true,true,true,true,false,false,false,false] rfl rfl (take_ofW HT_.out HW_.out (by kernel_rfl)) (fun _ _ _ h=>h) (Or.inl ⟨by rfl,?_⟩) hHeld ?_ ?_
  rotate_left
  ·rintro w' ⟨s0,s1,s2⟩
   go_simp
   with_reducible rfl
  rotate_left
  ·simp only [Act.put,List.setIfInBounds_toArray,List.set_cons_zero,List.set_cons_succ,i64_w,i32_w]
   rfl
  refine join_ (σ:=Value × Nat) 1 #[true,true,true,true,true,true,true,false] (fun s_=>[(13,.agg #[.int .i64 t168,s_.1]),(8,.pointer (some ⟨s_.2,0,none⟩)),(14,.agg #[.int .i64 a0,.int .i64 a1,.int .i64 a2_0,.int .i64 a2_1,.string a2_2,.int .i64 1,.int .i64 0,.int .i64 0,.int .i64 0,.int .i64 0,.string (⟨#[]⟩:ByteArray),.int .i64 t168,s_.1,.bool false])]) (fun s_ w'=>(w'.cell? ⟨gb166,0,none⟩=some (.int .i64 a2_0)∧w'.cell? ⟨gb166,1,none⟩=some (.int .i64 a2_1)∧w'.cell? ⟨gb166,2,none⟩=some (.string a2_2))∧(Kd.R k24 24 w' w.heap.size (fun k_=>k_ ≠ gb166) s_.1 t169)∧(w'.heap[gb166]?=some (.cells #[.int .i64 a2_0,.int .i64 a2_1,.string a2_2] 24 (0,0)))∧(w'.heap[gb167]?=some (.cells #[.int .i64 0,.int .i64 0,.int .i64 0,.int .i64 0,.string (⟨#[]⟩:ByteArray),.int .i64 0,.int .i64 0,.int .i64 0,.int .i64 0,.int .i64 0,.string (⟨#[]⟩:ByteArray),.int .i64 0,.slice none 0 0,.bool false] 30 (0,0)))∧(w'.heap[s_.2]?=some (.cells #[.int .i64 0,.int .i64 0,.int .i64 0,.int .i64 0,.string (⟨#[]⟩:ByteArray),.int .i64 0,.int .i64 0,.int .i64 0,.int .i64 0,.int .i64 0,.string (⟨#[]⟩:ByteArray),.int .i64 0,.slice none 0 0,.bool false] 30 (0,0)))∧(w.heap.size≤s_.2)∧(w.heap.size≤s_.2)∧(gb166 ≠ s_.2)∧(s_.2 ≠ gb166)∧(gb167 ≠ s_.2)∧(s_.2 ≠ gb167)∧(Below w.heap.size w w')) ?_ ?_
  rotate_left
  ·intro hCont
   refine two_ (i:=4) (j:=6) (Ni:=some 13) (Nj:=some 8) #[true,true,true,true,true,false,false,false] #[true,true,true,true,false,false,true,false] rfl rfl rfl rfl (two_of HT_.out (by kernel_rfl)) (by decide) (by decide) (fun K hK=>?_) (fun K hK=>?_)
   ·skip
    refine goes_ Tryd.func28 (by kernel_rfl) rfl #[.agg #[.int .i64 a2_0,.int .i64 a2_1,.string a2_2]] (by rfl) rfl rfl (by (try simp only [List.map_toArray,List.map_cons,List.map_nil]);first|done|rfl|(simp only [List.length_drop,List.length_take];rfl)|(simp (disch:=omega) only [u64_in];rfl)) ?_
    with_reducible refine (machine_First.calls a2_0 a2_1 a2_2 t168 t169 _ A4.out).mono ?_
    rintro e w38 ⟨v170,rfl,ho0,hb⟩
    refine ⟨_,rfl,?_⟩
    have HO171:=Aside0.mk (Kd.R_lower (Kd.R_newB ho0 (g:=gb166) (o:=.cells #[.int .i64 a2_0,.int .i64 a2_1,.string a2_2] 24 (0,0)) (by (with_reducible repeat (first|apply zb1|apply zb2|apply zb3));exact BK166.out)) (below_size (by repeat (first|(with_reducible first|exact HB.out|apply zl1|apply zl2|apply zl3|refine below_set ?_ GE166.out|refine below_set ?_ GE167.out)|exact HB.out))))
    replace BK166:=Aside0.mk (blk_below (g:=gb166) (o:=.cells #[.int .i64 a2_0,.int .i64 a2_1,.string a2_2] 24 (0,0)) (by (with_reducible repeat (first|apply zb1|apply zb2|apply zb3));exact BK166.out) hb)
    replace BK167:=Aside0.mk (blk_below (g:=gb167) (o:=.cells #[.int .i64 0,.int .i64 0,.int .i64 0,.int .i64 0,.string (⟨#[]⟩:ByteArray),.int .i64 0,.int .i64 0,.int .i64 0,.int .i64 0,.int .i64 0,.string (⟨#[]⟩:ByteArray),.int .i64 0,.slice none 0 0,.bool false] 30 (0,0)) (by (with_reducible repeat (first|apply zb1|apply zb2|apply zb3));exact BK167.out) hb)
    replace HB:=Aside0.mk (below_step (by repeat (first|(with_reducible first|exact HB.out|apply zl1|apply zl2|apply zl3|refine below_set ?_ GE166.out|refine below_set ?_ GE167.out)|exact HB.out)) hb)
    (try clear hb)
    (try clear hb2)
    (try clear hk)
    (try clear hi)
    (try clear ho0)
    obtain ⟨Ao39,co39,eo39⟩:=Kd.R_slice HO171.out
    (first|subst eo39|(injection eo39 with f1_ f2_ f3_;have f4_:=f1_.symm;have f5_:=f3_.symm;clear f1_ f2_ f3_;subst f4_;subst f5_))
    refine hK.out _ _ ⟨(blk_cell BK166.out 0).trans rfl,(blk_cell BK166.out 1).trans rfl,(blk_cell BK166.out 2).trans rfl⟩ (fun hHeld=>?_)
    clear hK K
    refine norm_ (a':=?_) ?_ ?_
    rotate_left
    ·show Act.put _ (some 13) _=_
     simp only [Act.put,List.setIfInBounds_toArray,List.set_cons_zero,List.set_cons_succ,i64_w,i32_w]
     rfl
    refine pure_ (i:=5) (N:=some 14) (v:=?_) (a':=?_) #[true,true,true,true,true,true,false,false] rfl rfl (any_of HT_.out (by kernel_rfl)) (fun _ _ _ h=>h) (Or.inl ⟨by rfl,?_⟩) ?_ ?_
    rotate_left
    ·intro w'
     go_simp
     with_reducible rfl
    rotate_left
    ·simp only [Act.put,List.setIfInBounds_toArray,List.set_cons_zero,List.set_cons_succ,i64_w,i32_w]
     rfl
    refine one_ (i:=6) (N:=some 8) #[true,true,true,true,true,true,true,false] rfl rfl (one_of HT_.out (by kernel_rfl)) (by decide) (fun K hK=>?_)
    refine box_step ?hg (N:=8) ?hd (cs:=#[.int .i64 0,.int .i64 0,.int .i64 0,.int .i64 0,.string (⟨#[]⟩:ByteArray),.int .i64 0,.int .i64 0,.int .i64 0,.int .i64 0,.int .i64 0,.string (⟨#[]⟩:ByteArray),.int .i64 0,.slice none 0 0,.bool false]) (t:=30) ?hr ?_;(case hd=>rfl);(case hg=>rfl);(case hr=>first|(go_simp;done)|(go_simp;rfl))
    intro gb172 hg w40 hbox hb
    replace HO171:=Aside0.mk (Kd.R_below (by (with_reducible repeat (first|apply zk1|apply zk2|apply zk3));exact HO171.out) hb)
    have BK172:=Aside0.mk (hbox)
    have GW172:=Aside0.mk ((by rw [hg];exact (below_size (by repeat (first|(with_reducible first|exact HB.out|apply zl1|apply zl2|apply zl3|refine below_set ?_ GE166.out|refine below_set ?_ GE167.out)|exact HB.out))):w.heap.size≤gb172))
    have GE172:=Aside0.mk ((by rw [hg];exact (below_size (by repeat (first|(with_reducible first|exact HB.out|apply zl1|apply zl2|apply zl3|refine below_set ?_ GE166.out|refine below_set ?_ GE167.out)|exact HB.out))):w.heap.size≤gb172))
    replace HB:=Aside0.mk (below_step (by repeat (first|(with_reducible first|exact HB.out|apply zl1|apply zl2|apply zl3|refine below_set ?_ GE166.out|refine below_set ?_ GE167.out)|exact HB.out)) hb)
    have NB166_172:=Aside0.mk ((by rw [hg];exact Nat.ne_of_lt (blk_lt (g:=gb166) (o:=.cells #[.int .i64 a2_0,.int .i64 a2_1,.string a2_2] 24 (0,0)) (by (with_reducible repeat (first|apply zb1|apply zb2|apply zb3));exact BK166.out)):gb166 ≠ gb172))
    have NB172_166:=Aside0.mk ((by rw [hg];exact Nat.ne_of_gt (blk_lt (g:=gb166) (o:=.cells #[.int .i64 a2_0,.int .i64 a2_1,.string a2_2] 24 (0,0)) (by (with_reducible repeat (first|apply zb1|apply zb2|apply zb3));exact BK166.out)):gb172 ≠ gb166))
    replace BK166:=Aside0.mk (blk_below (g:=gb166) (o:=.cells #[.int .i64 a2_0,.int .i64 a2_1,.string a2_2] 24 (0,0)) (by (with_reducible repeat (first|apply zb1|apply zb2|apply zb3));exact BK166.out) hb)
    have NB167_172:=Aside0.mk ((by rw [hg];exact Nat.ne_of_lt (blk_lt (g:=gb167) (o:=.cells #[.int .i64 0,.int .i64 0,.int .i64 0,.int .i64 0,.string (⟨#[]⟩:ByteArray),.int .i64 0,.int .i64 0,.int .i64 0,.int .i64 0,.int .i64 0,.string (⟨#[]⟩:ByteArray),.int .i64 0,.slice none 0 0,.bool false] 30 (0,0)) (by (with_reducible repeat (first|apply zb1|apply zb2|apply zb3));exact BK167.out)):gb167 ≠ gb172))
    have NB172_167:=Aside0.mk ((by rw [hg];exact Nat.ne_of_gt (blk_lt (g:=gb167) (o:=.cells #[.int .i64 0,.int .i64 0,.int .i64 0,.int .i64 0,.string (⟨#[]⟩:ByteArray),.int .i64 0,.int .i64 0,.int .i64 0,.int .i64 0,.int .i64 0,.string (⟨#[]⟩:ByteArray),.int .i64 0,.slice none 0 0,.bool false] 30 (0,0)) (by (with_reducible repeat (first|apply zb1|apply zb2|apply zb3));exact BK167.out)):gb172 ≠ gb167))
    replace BK167:=Aside0.mk (blk_below (g:=gb167) (o:=.cells #[.int .i64 0,.int .i64 0,.int .i64 0,.int .i64 0,.string (⟨#[]⟩:ByteArray),.int .i64 0,.int .i64 0,.int .i64 0,.int .i64 0,.int .i64 0,.string (⟨#[]⟩:ByteArray),.int .i64 0,.slice none 0 0,.bool false] 30 (0,0)) (by (with_reducible repeat (first|apply zb1|apply zb2|apply zb3));exact BK167.out) hb)
    clear hb hbox hg
    refine hK.out _ _ ⟨(blk_cell BK166.out 0).trans rfl,(blk_cell BK166.out 1).trans rfl,(blk_cell BK166.out 2).trans rfl⟩ (fun hHeld=>?_)
    clear hK K
    refine norm_ (a':=?_) ?_ ?_
    rotate_left
    ·show Act.put _ (some 8) _=_
     simp only [Act.put,List.setIfInBounds_toArray,List.set_cons_zero,List.set_cons_succ,i64_w,i32_w]
     rfl
    exact norm_ (by simp only [putAll,Act.put,List.setIfInBounds_toArray,List.set_cons_zero,List.set_cons_succ]) (hCont (.slice Ao39 t169.length co39,gb172) _ ⟨hHeld,(by (with_reducible repeat (first|apply zk1|apply zk2|apply zk3));exact Kd.R_mono HO171.out (fun _ hk=>hk.2)),(by (with_reducible repeat (first|apply zb1|apply zb2|apply zb3));exact BK166.out),(by (with_reducible repeat (first|apply zb1|apply zb2|apply zb3));exact BK167.out),(by (with_reducible repeat (first|apply zb1|apply zb2|apply zb3));exact BK172.out),GW172.out,GE172.out,NB166_172.out,NB172_166.out,NB167_172.out,NB172_167.out,(by repeat (first|(with_reducible first|exact HB.out|apply zl1|apply zl2|apply zl3|refine below_set ?_ GE166.out|refine below_set ?_ GE167.out|refine below_set ?_ GE172.out)|exact HB.out))⟩)
   ·skip
    refine box_step ?hg (N:=8) ?hd (cs:=#[.int .i64 0,.int .i64 0,.int .i64 0,.int .i64 0,.string (⟨#[]⟩:ByteArray),.int .i64 0,.int .i64 0,.int .i64 0,.int .i64 0,.int .i64 0,.string (⟨#[]⟩:ByteArray),.int .i64 0,.slice none 0 0,.bool false]) (t:=30) ?hr ?_;(case hd=>rfl);(case hg=>rfl);(case hr=>first|(go_simp;done)|(go_simp;rfl))
    intro gb172 hg w38 hbox hb
    have BK172:=Aside0.mk (hbox)
    have GW172:=Aside0.mk ((by rw [hg];exact (below_size (by repeat (first|(with_reducible first|exact HB.out|apply zl1|apply zl2|apply zl3|refine below_set ?_ GE166.out|refine below_set ?_ GE167.out)|exact HB.out))):w.heap.size≤gb172))
    have GE172:=Aside0.mk ((by rw [hg];exact (below_size (by repeat (first|(with_reducible first|exact HB.out|apply zl1|apply zl2|apply zl3|refine below_set ?_ GE166.out|refine below_set ?_ GE167.out)|exact HB.out))):w.heap.size≤gb172))
    replace HB:=Aside0.mk (below_step (by repeat (first|(with_reducible first|exact HB.out|apply zl1|apply zl2|apply zl3|refine below_set ?_ GE166.out|refine below_set ?_ GE167.out)|exact HB.out)) hb)
    have NB166_172:=Aside0.mk ((by rw [hg];exact Nat.ne_of_lt (blk_lt (g:=gb166) (o:=.cells #[.int .i64 a2_0,.int .i64 a2_1,.string a2_2] 24 (0,0)) (by (with_reducible repeat (first|apply zb1|apply zb2|apply zb3));exact BK166.out)):gb166 ≠ gb172))
    have NB172_166:=Aside0.mk ((by rw [hg];exact Nat.ne_of_gt (blk_lt (g:=gb166) (o:=.cells #[.int .i64 a2_0,.int .i64 a2_1,.string a2_2] 24 (0,0)) (by (with_reducible repeat (first|apply zb1|apply zb2|apply zb3));exact BK166.out)):gb172 ≠ gb166))
    replace BK166:=Aside0.mk (blk_below (g:=gb166) (o:=.cells #[.int .i64 a2_0,.int .i64 a2_1,.string a2_2] 24 (0,0)) (by (with_reducible repeat (first|apply zb1|apply zb2|apply zb3));exact BK166.out) hb)
    have NB167_172:=Aside0.mk ((by rw [hg];exact Nat.ne_of_lt (blk_lt (g:=gb167) (o:=.cells #[.int .i64 0,.int .i64 0,.int .i64 0,.int .i64 0,.string (⟨#[]⟩:ByteArray),.int .i64 0,.int .i64 0,.int .i64 0,.int .i64 0,.int .i64 0,.string (⟨#[]⟩:ByteArray),.int .i64 0,.slice none 0 0,.bool false] 30 (0,0)) (by (with_reducible repeat (first|apply zb1|apply zb2|apply zb3));exact BK167.out)):gb167 ≠ gb172))
    have NB172_167:=Aside0.mk ((by rw [hg];exact Nat.ne_of_gt (blk_lt (g:=gb167) (o:=.cells #[.int .i64 0,.int .i64 0,.int .i64 0,.int .i64 0,.string (⟨#[]⟩:ByteArray),.int .i64 0,.int .i64 0,.int .i64 0,.int .i64 0,.int .i64 0,.string (⟨#[]⟩:ByteArray),.int .i64 0,.slice none 0 0,.bool false] 30 (0,0)) (by (with_reducible repeat (first|apply zb1|apply zb2|apply zb3));exact BK167.out)):gb172 ≠ gb167))
    replace BK167:=Aside0.mk (blk_below (g:=gb167) (o:=.cells #[.int .i64 0,.int .i64 0,.int .i64 0,.int .i64 0,.string (⟨#[]⟩:ByteArray),.int .i64 0,.int .i64 0,.int .i64 0,.int .i64 0,.int .i64 0,.string (⟨#[]⟩:ByteArray),.int .i64 0,.slice none 0 0,.bool false] 30 (0,0)) (by (with_reducible repeat (first|apply zb1|apply zb2|apply zb3));exact BK167.out) hb)
    clear hb hbox hg
    refine hK.out _ _ ⟨(blk_cell BK166.out 0).trans rfl,(blk_cell BK166.out 1).trans rfl,(blk_cell BK166.out 2).trans rfl⟩ (fun hHeld=>?_)
    clear hK K
    refine norm_ (a':=?_) ?_ ?_
    rotate_left
    ·show Act.put _ (some 8) _=_
     simp only [Act.put,List.setIfInBounds_toArray,List.set_cons_zero,List.set_cons_succ,i64_w,i32_w]
     rfl
    refine one_ (i:=4) (N:=some 13) #[true,true,true,true,true,false,true,false] rfl rfl (one_of HT_.out (by kernel_rfl)) (by decide) (fun K hK=>?_)
    refine goes_ Tryd.func28 (by kernel_rfl) rfl #[.agg #[.int .i64 a2_0,.int .i64 a2_1,.string a2_2]] (by rfl) rfl rfl (by (try simp only [List.map_toArray,List.map_cons,List.map_nil]);first|done|rfl|(simp only [List.length_drop,List.length_take];rfl)|(simp (disch:=omega) only [u64_in];rfl)) ?_
    with_reducible refine (machine_First.calls a2_0 a2_1 a2_2 t168 t169 _ A4.out).mono ?_
    rintro e w39 ⟨v170,rfl,ho0,hb⟩
    refine ⟨_,rfl,?_⟩
    have HO171:=Aside0.mk (Kd.R_lower (Kd.R_newB ho0 (g:=gb166) (o:=.cells #[.int .i64 a2_0,.int .i64 a2_1,.string a2_2] 24 (0,0)) (by (with_reducible repeat (first|apply zb1|apply zb2|apply zb3));exact BK166.out)) (below_size (by repeat (first|(with_reducible first|exact HB.out|apply zl1|apply zl2|apply zl3|refine below_set ?_ GE166.out|refine below_set ?_ GE167.out|refine below_set ?_ GE172.out)|exact HB.out))))
    replace BK166:=Aside0.mk (blk_below (g:=gb166) (o:=.cells #[.int .i64 a2_0,.int .i64 a2_1,.string a2_2] 24 (0,0)) (by (with_reducible repeat (first|apply zb1|apply zb2|apply zb3));exact BK166.out) hb)
    replace BK167:=Aside0.mk (blk_below (g:=gb167) (o:=.cells #[.int .i64 0,.int .i64 0,.int .i64 0,.int .i64 0,.string (⟨#[]⟩:ByteArray),.int .i64 0,.int .i64 0,.int .i64 0,.int .i64 0,.int .i64 0,.string (⟨#[]⟩:ByteArray),.int .i64 0,.slice none 0 0,.bool false] 30 (0,0)) (by (with_reducible repeat (first|apply zb1|apply zb2|apply zb3));exact BK167.out) hb)
    replace BK172:=Aside0.mk (blk_below (g:=gb172) (o:=.cells #[.int .i64 0,.int .i64 0,.int .i64 0,.int .i64 0,.string (⟨#[]⟩:ByteArray),.int .i64 0,.int .i64 0,.int .i64 0,.int .i64 0,.int .i64 0,.string (⟨#[]⟩:ByteArray),.int .i64 0,.slice none 0 0,.bool false] 30 (0,0)) (by (with_reducible repeat (first|apply zb1|apply zb2|apply zb3));exact BK172.out) hb)
    replace HB:=Aside0.mk (below_step (by repeat (first|(with_reducible first|exact HB.out|apply zl1|apply zl2|apply zl3|refine below_set ?_ GE166.out|refine below_set ?_ GE167.out|refine below_set ?_ GE172.out)|exact HB.out)) hb)
    (try clear hb)
    (try clear hb2)
    (try clear hk)
    (try clear hi)
    (try clear ho0)
    obtain ⟨Ao40,co40,eo40⟩:=Kd.R_slice HO171.out
    (first|subst eo40|(injection eo40 with f1_ f2_ f3_;have f4_:=f1_.symm;have f5_:=f3_.symm;clear f1_ f2_ f3_;subst f4_;subst f5_))
    refine hK.out _ _ ⟨(blk_cell BK166.out 0).trans rfl,(blk_cell BK166.out 1).trans rfl,(blk_cell BK166.out 2).trans rfl⟩ (fun hHeld=>?_)
    clear hK K
    refine norm_ (a':=?_) ?_ ?_
    rotate_left
    ·show Act.put _ (some 13) _=_
     simp only [Act.put,List.setIfInBounds_toArray,List.set_cons_zero,List.set_cons_succ,i64_w,i32_w]
     rfl
    refine pure_ (i:=5) (N:=some 14) (v:=?_) (a':=?_) #[true,true,true,true,true,true,true,false] rfl rfl (any_of HT_.out (by kernel_rfl)) (fun _ _ _ h=>h) (Or.inl ⟨by rfl,?_⟩) ?_ ?_
    rotate_left
    ·intro w'
     go_simp
     with_reducible rfl
    rotate_left
    ·simp only [Act.put,List.setIfInBounds_toArray,List.set_cons_zero,List.set_cons_succ,i64_w,i32_w]
     rfl
    exact norm_ (by simp only [putAll,Act.put,List.setIfInBounds_toArray,List.set_cons_zero,List.set_cons_succ]) (hCont (.slice Ao40 t169.length co40,gb172) _ ⟨hHeld,(by (with_reducible repeat (first|apply zk1|apply zk2|apply zk3));exact Kd.R_mono HO171.out (fun _ hk=>hk.2)),(by (with_reducible repeat (first|apply zb1|apply zb2|apply zb3));exact BK166.out),(by (with_reducible repeat (first|apply zb1|apply zb2|apply zb3));exact BK167.out),(by (with_reducible repeat (first|apply zb1|apply zb2|apply zb3));exact BK172.out),GW172.out,GE172.out,NB166_172.out,NB172_166.out,NB167_172.out,NB172_167.out,(by repeat (first|(with_reducible first|exact HB.out|apply zl1|apply zl2|apply zl3|refine below_set ?_ GE166.out|refine below_set ?_ GE167.out|refine below_set ?_ GE172.out)|exact HB.out))⟩)
  rintro ⟨v170,gb172⟩ w41 ⟨hS_,h0_,h1_,h2_,h3_,h4_,h5_,h6_,h7_,h8_,h9_,h10_⟩
  have n0_:Aside0 (Kd.R k24 24 w41 w.heap.size (fun k_=>k_ ≠ gb166) v170 t169):=⟨h0_⟩
  have n1_:Aside0 (w41.heap[gb166]?=some (.cells #[.int .i64 a2_0,.int .i64 a2_1,.string a2_2] 24 (0,0))):=⟨h1_⟩
  have n2_:Aside0 (w41.heap[gb167]?=some (.cells #[.int .i64 0,.int .i64 0,.int .i64 0,.int .i64 0,.string (⟨#[]⟩:ByteArray),.int .i64 0,.int .i64 0,.int .i64 0,.int .i64 0,.int .i64 0,.string (⟨#[]⟩:ByteArray),.int .i64 0,.slice none 0 0,.bool false] 30 (0,0))):=⟨h2_⟩
  have n3_:Aside0 (w41.heap[gb172]?=some (.cells #[.int .i64 0,.int .i64 0,.int .i64 0,.int .i64 0,.string (⟨#[]⟩:ByteArray),.int .i64 0,.int .i64 0,.int .i64 0,.int .i64 0,.int .i64 0,.string (⟨#[]⟩:ByteArray),.int .i64 0,.slice none 0 0,.bool false] 30 (0,0))):=⟨h3_⟩
  have n4_:Aside0 (w.heap.size≤gb172):=⟨h4_⟩
  have n5_:Aside0 (w.heap.size≤gb172):=⟨h5_⟩
  have n6_:Aside0 (gb166 ≠ gb172):=⟨h6_⟩
  have n7_:Aside0 (gb172 ≠ gb166):=⟨h7_⟩
  have n8_:Aside0 (gb167 ≠ gb172):=⟨h8_⟩
  have n9_:Aside0 (gb172 ≠ gb167):=⟨h9_⟩
  have n10_:Aside0 (Below w.heap.size w w41):=⟨h10_⟩
  clear BK166
  clear BK167
  clear HB
  clear h0_ h1_ h2_ h3_ h4_ h5_ h6_ h7_ h8_ h9_ h10_
  have HO171:=n0_
  have BK166:=n1_
  have BK167:=n2_
  have BK172:=n3_
  have GW172:=n4_
  have GE172:=n5_
  have NB166_172:=n6_
  have NB172_166:=n7_
  have NB167_172:=n8_
  have NB172_167:=n9_
  have HB:=n10_
  clear n0_ n1_ n2_ n3_ n4_ n5_ n6_ n7_ n8_ n9_ n10_
  have hHeld:w41.cell? ⟨gb166,0,none⟩=some (.int .i64 a2_0)∧w41.cell? ⟨gb166,1,none⟩=some (.int .i64 a2_1)∧w41.cell? ⟨gb166,2,none⟩=some (.string a2_2):=hS_
  obtain ⟨Ao42,co42,eo42⟩:=Kd.R_slice HO171.out
  (first|subst eo42|(injection eo42 with f1_ f2_ f3_;have f4_:=f1_.symm;have f5_:=f3_.symm;clear f1_ f2_ f3_;subst f4_;subst f5_))
  refine norm_ (a':=?_) ?_ ?_
  rotate_left
  ·simp only [putAll,Act.put,List.setIfInBounds_toArray,List.set_cons_zero,List.set_cons_succ]
   rfl
  refine one_ (i:=7) (N:=none) #[true,true,true,true,true,true,true,true] rfl rfl (one_of HT_.out (by kernel_rfl)) (by decide) (fun K hK=>?_)
  have hs43:w41.cell? ⟨gb172,0,none⟩=some (.int .i64 0):=(blk_cell BK172.out 0).trans rfl
  have hfs43:=blk_frozen BK172.out 0
  have hns43_0:=NB166_172.out
  have hns43_1:=NB167_172.out
  have hms43_0:=NB172_166.out
  have hms43_1:=NB172_167.out
  have hs44:w41.cell? ⟨gb172,1,none⟩=some (.int .i64 0):=(blk_cell BK172.out 1).trans rfl
  have hfs44:=blk_frozen BK172.out 1
  have hns44_0:=NB166_172.out
  have hns44_1:=NB167_172.out
  have hms44_0:=NB172_166.out
  have hms44_1:=NB172_167.out
  have hs45:w41.cell? ⟨gb172,2,none⟩=some (.int .i64 0):=(blk_cell BK172.out 2).trans rfl
  have hfs45:=blk_frozen BK172.out 2
  have hns45_0:=NB166_172.out
  have hns45_1:=NB167_172.out
  have hms45_0:=NB172_166.out
  have hms45_1:=NB172_167.out
  have hs46:w41.cell? ⟨gb172,3,none⟩=some (.int .i64 0):=(blk_cell BK172.out 3).trans rfl
  have hfs46:=blk_frozen BK172.out 3
  have hns46_0:=NB166_172.out
  have hns46_1:=NB167_172.out
  have hms46_0:=NB172_166.out
  have hms46_1:=NB172_167.out
  have hs47:w41.cell? ⟨gb172,4,none⟩=some (.string (⟨#[]⟩:ByteArray)):=(blk_cell BK172.out 4).trans rfl
  have hfs47:=blk_frozen BK172.out 4
  have hns47_0:=NB166_172.out
  have hns47_1:=NB167_172.out
  have hms47_0:=NB172_166.out
  have hms47_1:=NB172_167.out
  have hs48:w41.cell? ⟨gb172,5,none⟩=some (.int .i64 0):=(blk_cell BK172.out 5).trans rfl
  have hfs48:=blk_frozen BK172.out 5
  have hns48_0:=NB166_172.out
  have hns48_1:=NB167_172.out
  have hms48_0:=NB172_166.out
  have hms48_1:=NB172_167.out
  have hs49:w41.cell? ⟨gb172,6,none⟩=some (.int .i64 0):=(blk_cell BK172.out 6).trans rfl
  have hfs49:=blk_frozen BK172.out 6
  have hns49_0:=NB166_172.out
  have hns49_1:=NB167_172.out
  have hms49_0:=NB172_166.out
  have hms49_1:=NB172_167.out
  have hs50:w41.cell? ⟨gb172,7,none⟩=some (.int .i64 0):=(blk_cell BK172.out 7).trans rfl
  have hfs50:=blk_frozen BK172.out 7
  have hns50_0:=NB166_172.out
  have hns50_1:=NB167_172.out
  have hms50_0:=NB172_166.out
  have hms50_1:=NB172_167.out
  have hs51:w41.cell? ⟨gb172,8,none⟩=some (.int .i64 0):=(blk_cell BK172.out 8).trans rfl
  have hfs51:=blk_frozen BK172.out 8
  have hns51_0:=NB166_172.out
  have hns51_1:=NB167_172.out
  have hms51_0:=NB172_166.out
  have hms51_1:=NB172_167.out
  have hs52:w41.cell? ⟨gb172,9,none⟩=some (.int .i64 0):=(blk_cell BK172.out 9).trans rfl
  have hfs52:=blk_frozen BK172.out 9
  have hns52_0:=NB166_172.out
  have hns52_1:=NB167_172.out
  have hms52_0:=NB172_166.out
  have hms52_1:=NB172_167.out
  have hs53:w41.cell? ⟨gb172,10,none⟩=some (.string (⟨#[]⟩:ByteArray)):=(blk_cell BK172.out 10).trans rfl
  have hfs53:=blk_frozen BK172.out 10
  have hns53_0:=NB166_172.out
  have hns53_1:=NB167_172.out
  have hms53_0:=NB172_166.out
  have hms53_1:=NB172_167.out
  have hs54:w41.cell? ⟨gb172,11,none⟩=some (.int .i64 0):=(blk_cell BK172.out 11).trans rfl
  have hfs54:=blk_frozen BK172.out 11
  have hns54_0:=NB166_172.out
  have hns54_1:=NB167_172.out
  have hms54_0:=NB172_166.out
  have hms54_1:=NB172_167.out
  have hs55:w41.cell? ⟨gb172,12,none⟩=some (.slice none 0 0):=(blk_cell BK172.out 12).trans rfl
  have hfs55:=blk_frozen BK172.out 12
  have hns55_0:=NB166_172.out
  have hns55_1:=NB167_172.out
  have hms55_0:=NB172_166.out
  have hms55_1:=NB172_167.out
  have hs56:w41.cell? ⟨gb172,13,none⟩=some (.bool false):=(blk_cell BK172.out 13).trans rfl
  have hfs56:=blk_frozen BK172.out 13
  have hns56_0:=NB166_172.out
  have hns56_1:=NB167_172.out
  have hms56_0:=NB172_166.out
  have hms56_1:=NB172_167.out
  refine skip_ (w1:=?_) (by rfl) rfl ?_ ?_
  rotate_left
  ·go_simp
   rfl
  refine hK.out _ _ ⟨((cell_far (p:=⟨gb172,_,none⟩) NB166_172.out _).trans (((cell_far (p:=⟨gb172,_,none⟩) NB166_172.out _).trans (((cell_far (p:=⟨gb172,_,none⟩) NB166_172.out _).trans (((cell_far (p:=⟨gb172,_,none⟩) NB166_172.out _).trans (((cell_far (p:=⟨gb172,_,none⟩) NB166_172.out _).trans (((cell_far (p:=⟨gb172,_,none⟩) NB166_172.out _).trans (((cell_far (p:=⟨gb172,_,none⟩) NB166_172.out _).trans (((cell_far (p:=⟨gb172,_,none⟩) NB166_172.out _).trans (((cell_far (p:=⟨gb172,_,none⟩) NB166_172.out _).trans (((cell_far (p:=⟨gb172,_,none⟩) NB166_172.out _).trans (((cell_far (p:=⟨gb172,_,none⟩) NB166_172.out _).trans (((cell_far (p:=⟨gb172,_,none⟩) NB166_172.out _).trans (((cell_far (p:=⟨gb172,_,none⟩) NB166_172.out _).trans (((cell_far (p:=⟨gb172,_,none⟩) NB166_172.out _).trans (hHeld.1)))))))))))))))))))))))))))),((cell_far (p:=⟨gb172,_,none⟩) NB166_172.out _).trans (((cell_far (p:=⟨gb172,_,none⟩) NB166_172.out _).trans (((cell_far (p:=⟨gb172,_,none⟩) NB166_172.out _).trans (((cell_far (p:=⟨gb172,_,none⟩) NB166_172.out _).trans (((cell_far (p:=⟨gb172,_,none⟩) NB166_172.out _).trans (((cell_far (p:=⟨gb172,_,none⟩) NB166_172.out _).trans (((cell_far (p:=⟨gb172,_,none⟩) NB166_172.out _).trans (((cell_far (p:=⟨gb172,_,none⟩) NB166_172.out _).trans (((cell_far (p:=⟨gb172,_,none⟩) NB166_172.out _).trans (((cell_far (p:=⟨gb172,_,none⟩) NB166_172.out _).trans (((cell_far (p:=⟨gb172,_,none⟩) NB166_172.out _).trans (((cell_far (p:=⟨gb172,_,none⟩) NB166_172.out _).trans (((cell_far (p:=⟨gb172,_,none⟩) NB166_172.out _).trans (((cell_far (p:=⟨gb172,_,none⟩) NB166_172.out _).trans (hHeld.2.1)))))))))))))))))))))))))))),((cell_far (p:=⟨gb172,_,none⟩) NB166_172.out _).trans (((cell_far (p:=⟨gb172,_,none⟩) NB166_172.out _).trans (((cell_far (p:=⟨gb172,_,none⟩) NB166_172.out _).trans (((cell_far (p:=⟨gb172,_,none⟩) NB166_172.out _).trans (((cell_far (p:=⟨gb172,_,none⟩) NB166_172.out _).trans (((cell_far (p:=⟨gb172,_,none⟩) NB166_172.out _).trans (((cell_far (p:=⟨gb172,_,none⟩) NB166_172.out _).trans (((cell_far (p:=⟨gb172,_,none⟩) NB166_172.out _).trans (((cell_far (p:=⟨gb172,_,none⟩) NB166_172.out _).trans (((cell_far (p:=⟨gb172,_,none⟩) NB166_172.out _).trans (((cell_far (p:=⟨gb172,_,none⟩) NB166_172.out _).trans (((cell_far (p:=⟨gb172,_,none⟩) NB166_172.out _).trans (((cell_far (p:=⟨gb172,_,none⟩) NB166_172.out _).trans (((cell_far (p:=⟨gb172,_,none⟩) NB166_172.out _).trans (hHeld.2.2))))))))))))))))))))))))))))⟩ (fun hHeld=>?_)
  clear hK K
  refine done_ (done_of HT_.out (by kernel_rfl)) ?_
  have hnb57:=NB172_166.out
  have hnc57:=NB166_172.out
  have hnb58:=NB172_167.out
  have hnc58:=NB167_172.out
  obtain ⟨hcz59_0,hcz59_1,hcz59_2,hcz59_3,hcz59_4,hcz59_5,hcz59_6,hcz59_7,hcz59_8,hcz59_9,hcz59_10,hcz59_11,hcz59_12,hcz59_13⟩:=zc14 BK172.out
  obtain ⟨hfz59_0,hfz59_1,hfz59_2,hfz59_3,hfz59_4,hfz59_5,hfz59_6,hfz59_7,hfz59_8,hfz59_9,hfz59_10,hfz59_11,hfz59_12,hfz59_13⟩:=zf14 BK172.out
  try go_wp2_with (first|((with_reducible refine gate_callee (f:=29) rfl ?_);refine goesL_ (some 16) rfl rfl Tryd.func29 (by kernel_rfl) rfl #[.agg #[.int .i64 a0,.int .i64 a1,.int .i64 a2_0,.int .i64 a2_1,.string a2_2,.int .i64 1,.int .i64 0,.int .i64 0,.int .i64 0,.int .i64 0,.string (⟨#[]⟩:ByteArray),.int .i64 t168,.slice Ao42 t169.length co42,.bool false]] rfl (by (try simp only [List.map_toArray,List.map_cons,List.map_nil]);first|done|rfl|(simp only [List.length_drop,List.length_take];rfl)|(simp (disch:=omega) only [u64_in];rfl)) ?_;(with_reducible refine (flows_right.calls k a0 a1 a2_0 a2_1 a2_2 1 0 0 0 0 (⟨#[]⟩:ByteArray) t168 _ _ t169 false false _ ?side1 ?side2 A5.out).mono ?_);(case side1=>refine (Kd.R_reads' (e:=24) (base:=w.heap.size) (ok:=fun k_=>k_ ≠ gb166) (n:=t169.length) (c:=co42) ?_).2.2;exact (by (with_reducible repeat (first|apply zk1|apply zk2|apply zk3));exact (Kd.R_mono (Kd.R_far (p:=⟨gb172,13,none⟩) (Kd.R_far (p:=⟨gb172,12,none⟩) (Kd.R_far (p:=⟨gb172,11,none⟩) (Kd.R_far (p:=⟨gb172,10,none⟩) (Kd.R_far (p:=⟨gb172,9,none⟩) (Kd.R_far (p:=⟨gb172,8,none⟩) (Kd.R_far (p:=⟨gb172,7,none⟩) (Kd.R_far (p:=⟨gb172,6,none⟩) (Kd.R_far (p:=⟨gb172,5,none⟩) (Kd.R_far (p:=⟨gb172,4,none⟩) (Kd.R_far (p:=⟨gb172,3,none⟩) (Kd.R_far (p:=⟨gb172,2,none⟩) (Kd.R_far (p:=⟨gb172,1,none⟩) (Kd.R_far (p:=⟨gb172,0,none⟩) (Kd.R_types HO171.out BK172.out (by decide)) (fun _ hk=>hk.2) (.int .i64 a0)) (fun _ hk=>hk.2) (.int .i64 a1)) (fun _ hk=>hk.2) (.int .i64 a2_0)) (fun _ hk=>hk.2) (.int .i64 a2_1)) (fun _ hk=>hk.2) (.string a2_2)) (fun _ hk=>hk.2) (.int .i64 1)) (fun _ hk=>hk.2) (.int .i64 0)) (fun _ hk=>hk.2) (.int .i64 0)) (fun _ hk=>hk.2) (.int .i64 0)) (fun _ hk=>hk.2) (.int .i64 0)) (fun _ hk=>hk.2) (.string (⟨#[]⟩:ByteArray))) (fun _ hk=>hk.2) (.int .i64 t168)) (fun _ hk=>hk.2) (.slice Ao42 t169.length co42)) (fun _ hk=>hk.2) (.bool false)) (fun _ h_=>h_.1))));(case side2=>exact (Kd.R_reads' HO171.out).2.1);rintro e w60 ⟨rfl,hb⟩;refine ⟨_,rfl,?_⟩;replace HO171:=Aside0.mk (Kd.R_below (by (with_reducible repeat (first|apply zk1|apply zk2|apply zk3));exact (Kd.R_mono (Kd.R_far (p:=⟨gb172,13,none⟩) (Kd.R_far (p:=⟨gb172,12,none⟩) (Kd.R_far (p:=⟨gb172,11,none⟩) (Kd.R_far (p:=⟨gb172,10,none⟩) (Kd.R_far (p:=⟨gb172,9,none⟩) (Kd.R_far (p:=⟨gb172,8,none⟩) (Kd.R_far (p:=⟨gb172,7,none⟩) (Kd.R_far (p:=⟨gb172,6,none⟩) (Kd.R_far (p:=⟨gb172,5,none⟩) (Kd.R_far (p:=⟨gb172,4,none⟩) (Kd.R_far (p:=⟨gb172,3,none⟩) (Kd.R_far (p:=⟨gb172,2,none⟩) (Kd.R_far (p:=⟨gb172,1,none⟩) (Kd.R_far (p:=⟨gb172,0,none⟩) (Kd.R_types HO171.out BK172.out (by decide)) (fun _ hk=>hk.2) (.int .i64 a0)) (fun _ hk=>hk.2) (.int .i64 a1)) (fun _ hk=>hk.2) (.int .i64 a2_0)) (fun _ hk=>hk.2) (.int .i64 a2_1)) (fun _ hk=>hk.2) (.string a2_2)) (fun _ hk=>hk.2) (.int .i64 1)) (fun _ hk=>hk.2) (.int .i64 0)) (fun _ hk=>hk.2) (.int .i64 0)) (fun _ hk=>hk.2) (.int .i64 0)) (fun _ hk=>hk.2) (.int .i64 0)) (fun _ hk=>hk.2) (.string (⟨#[]⟩:ByteArray))) (fun _ hk=>hk.2) (.int .i64 t168)) (fun _ hk=>hk.2) (.slice Ao42 t169.length co42)) (fun _ hk=>hk.2) (.bool false)) (fun _ h_=>h_.1))) hb);replace BK166:=Aside0.mk (blk_below (g:=gb166) (o:=.cells #[.int .i64 a2_0,.int .i64 a2_1,.string a2_2] 24 (0,0)) (by (repeat (first|(with_reducible first|apply zb1|apply zb2|apply zb3|exact BK166.out)|refine blk_far ?_ NB166_172.out _))) hb);replace BK167:=Aside0.mk (blk_below (g:=gb167) (o:=.cells #[.int .i64 0,.int .i64 0,.int .i64 0,.int .i64 0,.string (⟨#[]⟩:ByteArray),.int .i64 0,.int .i64 0,.int .i64 0,.int .i64 0,.int .i64 0,.string (⟨#[]⟩:ByteArray),.int .i64 0,.slice none 0 0,.bool false] 30 (0,0)) (by (repeat (first|(with_reducible first|apply zb1|apply zb2|apply zb3|exact BK167.out)|refine blk_far ?_ NB167_172.out _))) hb);replace BK172:=Aside0.mk (blk_below (g:=gb172) (o:=.cells #[.int .i64 a0,.int .i64 a1,.int .i64 a2_0,.int .i64 a2_1,.string a2_2,.int .i64 1,.int .i64 0,.int .i64 0,.int .i64 0,.int .i64 0,.string (⟨#[]⟩:ByteArray),.int .i64 t168,.slice Ao42 t169.length co42,.bool false] 30 (0,0)) (by apply zpe;(repeat (first|(with_reducible first|apply zb1|apply zb2|apply zb3|apply zpi|exact BK172.out)));rfl) hb);replace HB:=Aside0.mk (below_step (by repeat (first|(with_reducible first|exact HB.out|apply zl1|apply zl2|apply zl3|refine below_set ?_ GE166.out|refine below_set ?_ GE167.out|refine below_set ?_ GE172.out)|exact HB.out)) hb);(try clear hb))|((with_reducible refine gate_store (t:=30) (p:=6) rfl ?_);refine store_all 30 gb167 30 #[.int .i64 0,.int .i64 0,.int .i64 0,.int .i64 0,.string (⟨#[]⟩:ByteArray),.int .i64 0,.int .i64 0,.int .i64 0,.int .i64 0,.int .i64 0,.string (⟨#[]⟩:ByteArray),.int .i64 0,.slice none 0 0,.bool false] #[.int .i64 0,.int .i64 0,.int .i64 0,.int .i64 0,.string (⟨#[]⟩:ByteArray),.int .i64 0,.int .i64 0,.int .i64 0,.int .i64 0,.int .i64 0,.string (⟨#[]⟩:ByteArray),.int .i64 0,.slice none 0 0,.bool false] rfl rfl rfl (by first|rfl|(go_simp;done)) (by (with_reducible repeat (first|apply zb1|apply zb2|apply zb3));exact BK167.out) (by kernel_rfl) rfl (by kernel_rfl) ?_;intro w61 hx hg;replace BK166:=Aside0.mk (blk_grown (g:=gb166) (o:=.cells #[.int .i64 a2_0,.int .i64 a2_1,.string a2_2] 24 (0,0)) (by (with_reducible repeat (first|apply zb1|apply zb2|apply zb3));exact BK166.out) hg (fun e_=>NB166_167.out (Option.some.inj e_)));replace HO171:=Aside0.mk (Kd.R_mono (Kd.R_grown (Kd.R_types HO171.out BK167.out (by decide)) hg (fun k_ hk_ he_=>(hk_.2) (Option.some.inj he_))) (fun _ h_=>h_.1));replace BK172:=Aside0.mk (blk_grown (g:=gb172) (o:=.cells #[.int .i64 a0,.int .i64 a1,.int .i64 a2_0,.int .i64 a2_1,.string a2_2,.int .i64 1,.int .i64 0,.int .i64 0,.int .i64 0,.int .i64 0,.string (⟨#[]⟩:ByteArray),.int .i64 t168,.slice Ao42 t169.length co42,.bool false] 30 (0,0)) (by (with_reducible repeat (first|apply zb1|apply zb2|apply zb3));exact BK172.out) hg (fun e_=>NB172_167.out (Option.some.inj e_)));replace HB:=Aside0.mk ((fun {W_:World} (hB_:Below w.heap.size w W_) (hg_:W_.grownBy w61 (some gb167))=>hB_.grown hg_ hB_.size (fun k_ e_=>by cases e_;exact GE167.out)) (by repeat (first|(with_reducible first|exact HB.out|apply zl1|apply zl2|apply zl3|refine below_set ?_ GE166.out|refine below_set ?_ GE167.out|refine below_set ?_ GE172.out)|exact HB.out)) hg);replace BK167:=Aside0.mk (hx);clear hx hg))
  refine bodyPost_ret (results_ct rfl _ _ gb167 30 #[.int .i64 0,.int .i64 0,.int .i64 0,.int .i64 0,.string (⟨#[]⟩:ByteArray),.int .i64 0,.int .i64 0,.int .i64 0,.int .i64 0,.int .i64 0,.string (⟨#[]⟩:ByteArray),.int .i64 0,.slice none 0 0,.bool false] (0,0) _ rfl (by (with_reducible repeat (first|apply zb1|apply zb2|apply zb3));exact BK167.out) Tryd.underlying30 rfl (by kernel_rfl)) rfl ?_
  exact ⟨_,by first|(with_reducible rfl)|(simp only [isEmpty_bne,Bool.not_not] <;> rfl)|rfl|(simp [*,errW_none,errW_some] <;> rfl),by first|exact Kd.R_nil _ _ _ _ _|exact Kd.N_nil _ _ _ _ _|exact Kd.V_nil _ _ _ _ _|exact Kd.Q_nil _ _ _ _ _|exact Kd.S_nil _ _ _ _ _,by repeat (first|(with_reducible first|exact HB.out|apply zl1|apply zl2|apply zl3|refine below_set ?_ GE166.out|refine below_set ?_ GE167.out|refine below_set ?_ GE172.out)|exact HB.out)⟩

end Go.Proofs.YtobjnhkjahhfnaaDoor.PAll
