/- Printed walks of the functions that the laws reach: each function, what it computes, and that it does. No conditions. -/
import Derived.Test.YtokjbncjapndgaaPAllx0
namespace Go.Proofs.Ytokjbncjapndgaa.PAll
open Go.RowKit Go.Proofs.Ytokjbncjapndgaa.XW Go.Proofs.Ytokjbncjapndgaa.XLib Go.Proofs.YtokjbncjapndgaaW.PrintWords Go.Proofs.YtokjbncjapndgaaW.PrintLast Go.Proofs.YtokjbncjapndgaaW.PrintMore
attribute [local go_sem] max2_int min2_int max_two min_two max_three min_three max_four min_four   -- for this text's walks alone
set_option linter.unusedVariables false
set_option linter.unusedSimpArgs false

/-! ### factotumref09_Join: function 20 -/
def factotumref09_Join.f (a0_0:Bool) (l0_1:List (S43)) (l0_2:List ByteArray) (l0_3:List Int) (a1_0:Bool) (l1_1:List (S43)) (l1_2:List ByteArray) (l1_3:List Int) (a2:ByteArray):Option (Bool × (List (S43)) × List ByteArray × List Int):=if a0_0=true then (if ([]:List (S43)).length + l0_1.length < 4398046511104 then ((some (([]:List (S43)) ++ l0_1:List (S43))).bind fun y418=>(if y418.length + l1_1.length < 4398046511104 then (some (true,(y418 ++ l1_1),([]:List ByteArray),([]:List Int))) else (none))) else (none)) else (if ([]:List ByteArray).length + l0_2.length < 8796093022208 then ((some (([]:List ByteArray) ++ l0_2:List ByteArray)).bind fun y424=>((some (([a2]:List ByteArray):List ByteArray)).bind fun y427=>(if y424.length + y427.length < 8796093022208 then ((some (y424 ++ y427:List ByteArray)).bind fun y430=>(if y430.length + l1_2.length < 8796093022208 then (if ([]:List Int).length + l0_3.length < 17592186044416 then ((some (([]:List Int) ++ l0_3:List Int)).bind fun y436=>(if y436.length + l1_3.length < 17592186044416 then (some (false,([]:List (S43)),(y430 ++ l1_2),(y436 ++ l1_3))) else (none))) else (none)) else (none))) else (none)))) else (none))
def factotumref09_Join.T2:Bool × List (List Nat × List Nat):=(true,[([],[]),([0],[0]),([1],[1]),([],[]),([3],[3]),([2,4,2],[2,4]),([5],[5]),([6,5,0,1,2,3,4,5,6],[6])])
def factotumref09_Join.B2:List Nat:=[0,1,3,0,8,31,63,127]
theorem factotumref09_Join.tab2:rtab .any (opsOf Try.f20 2)=factotumref09_Join.T2:=by kernel_rfl
theorem factotumref09_Join.bits2:waitsOk factotumref09_Join.T2.2 factotumref09_Join.B2=true:=by kernel_rfl
def factotumref09_Join.T3:Bool × List (List Nat × List Nat):=(true,[([],[]),([0],[0]),([1],[1]),([],[]),([3],[3]),([2,4,2],[2,4]),([],[]),([6],[6]),([5,7,5],[5,7]),([],[]),([9],[9]),([10,8],[10]),([],[]),([12],[12]),([11,13,11],[11,13]),([8,14],[8,14]),([15,14,0,1,2,3,4,5,6,7,8,9,10,11,12,13,14,15],[15])])
def factotumref09_Join.B3:List Nat:=[0,1,3,0,8,31,0,64,255,0,512,2047,0,4096,16383,32767,65535]
theorem factotumref09_Join.tab3:rtab .any (opsOf Try.f20 3)=factotumref09_Join.T3:=by kernel_rfl
theorem factotumref09_Join.bits3:waitsOk factotumref09_Join.T3.2 factotumref09_Join.B3=true:=by kernel_rfl
set_option maxHeartbeats 8000000 in
set_option maxRecDepth 100000 in
theorem factotumref09_Join.calls (a0_0:Bool) (A0_1:Option Addr) (c0_1:Nat) (l0_1:List (S43)) (A0_2:Option Addr) (c0_2:Nat) (l0_2:List ByteArray) (A0_3:Option Addr) (c0_3:Nat) (l0_3:List Int) (a1_0:Bool) (A1_1:Option Addr) (c1_1:Nat) (l1_1:List (S43)) (A1_2:Option Addr) (c1_2:Nat) (l1_2:List ByteArray) (A1_3:Option Addr) (c1_3:Nat) (l1_3:List Int) (a2:ByteArray) (r1:Bool) (r2:List (S43)) (r3:List ByteArray) (r4:List Int) (w:World) (hr0_1:Kd.C k43 w A0_1 l0_1.length l0_1) (hc0_1:l0_1.length≤c0_1) (hr0_2:Kd.C Kd.string w A0_2 l0_2.length l0_2) (hc0_2:l0_2.length≤c0_2) (hr0_3:Kd.C (Kd.int .i64) w A0_3 l0_3.length l0_3) (hc0_3:l0_3.length≤c0_3) (hr1_1:Kd.C k43 w A1_1 l1_1.length l1_1) (hc1_1:l1_1.length≤c1_1) (hr1_2:Kd.C Kd.string w A1_2 l1_2.length l1_2) (hc1_2:l1_2.length≤c1_2) (hr1_3:Kd.C (Kd.int .i64) w A1_3 l1_3.length l1_3) (hc1_3:l1_3.length≤c1_3) (h:factotumref09_Join.f a0_0 l0_1 l0_2 l0_3 a1_0 l1_1 l1_2 l1_3 a2=some (r1,r2,r3,r4)) :
  Calls Try.prog 20 #[.agg #[.bool a0_0,.slice A0_1 l0_1.length c0_1,.slice A0_2 l0_2.length c0_2,.slice A0_3 l0_3.length c0_3],.agg #[.bool a1_0,.slice A1_1 l1_1.length c1_1,.slice A1_2 l1_2.length c1_2,.slice A1_3 l1_3.length c1_3],.string a2] w fun e w'=>∃ v1_ v2_ v3_:Value,e=.returned (.agg #[.bool r1,v1_,v2_,v3_])∧Kd.R k43 43 w' w.heap.size (fun _=>True) v1_ r2∧Kd.R Kd.string 9 w' w.heap.size (fun _=>True) v2_ r3∧Kd.R (Kd.int .i64) 3 w' w.heap.size (fun _=>True) v3_ r4∧Below w.heap.size w w':=by
 have hu26:=Try.underlying26
 have HR0_1:=Aside0.mk hr0_1
 have HC0_1:=Aside0.mk hc0_1
 clear hr0_1 hc0_1
 have HR0_2:=Aside0.mk hr0_2
 have HC0_2:=Aside0.mk hc0_2
 clear hr0_2 hc0_2
 have HR0_3:=Aside0.mk hr0_3
 have HC0_3:=Aside0.mk hc0_3
 clear hr0_3 hc0_3
 have HR1_1:=Aside0.mk hr1_1
 have HC1_1:=Aside0.mk hc1_1
 clear hr1_1 hc1_1
 have HR1_2:=Aside0.mk hr1_2
 have HC1_2:=Aside0.mk hc1_2
 clear hr1_2 hc1_2
 have HR1_3:=Aside0.mk hr1_3
 have HC1_3:=Aside0.mk hc1_3
 clear hr1_3 hc1_3
 have HB:=Aside0.mk (Below.refl w.heap.size w)
 have H:(if a0_0=true then (if ([]:List (S43)).length + l0_1.length < 4398046511104 then ((some (([]:List (S43)) ++ l0_1:List (S43))).bind fun y418=>(if y418.length + l1_1.length < 4398046511104 then (some (true,(y418 ++ l1_1),([]:List ByteArray),([]:List Int))) else (none))) else (none)) else (if ([]:List ByteArray).length + l0_2.length < 8796093022208 then ((some (([]:List ByteArray) ++ l0_2:List ByteArray)).bind fun y424=>((some (([a2]:List ByteArray):List ByteArray)).bind fun y427=>(if y424.length + y427.length < 8796093022208 then ((some (y424 ++ y427:List ByteArray)).bind fun y430=>(if y430.length + l1_2.length < 8796093022208 then (if ([]:List Int).length + l0_3.length < 17592186044416 then ((some (([]:List Int) ++ l0_3:List Int)).bind fun y436=>(if y436.length + l1_3.length < 17592186044416 then (some (false,([]:List (S43)),(y430 ++ l1_2),(y436 ++ l1_3))) else (none))) else (none)) else (none))) else (none)))) else (none)))=some (r1,r2,r3,r4):=h
 clear h
 by_cases c4:a0_0=true
 ·subst c4
  have H1:(if ([]:List (S43)).length + l0_1.length < 4398046511104 then ((some (([]:List (S43)) ++ l0_1:List (S43))).bind fun y418=>(if y418.length + l1_1.length < 4398046511104 then (some (true,(y418 ++ l1_1),([]:List ByteArray),([]:List Int))) else (none))) else (none))=some (r1,r2,r3,r4):=by rw [if_pos rfl] at H;exact H
  clear H
  have H:=H1
  clear H1
  by_cases c5:([]:List (S43)).length + l0_1.length < 4398046511104
  ·rw [if_pos c5] at H
   have LMc5:=Aside0.mk c5
   clear c5
   obtain ⟨y418,hy418⟩:∃ y_:List (S43),y_=(([]:List (S43)) ++ l0_1):=⟨_,rfl⟩
   replace H:(if y418.length + l1_1.length < 4398046511104 then (some (true,(y418 ++ l1_1),([]:List ByteArray),([]:List Int))) else (none))=some (r1,r2,r3,r4):=by first|(rw [hy418];with_reducible exact H)|(have H2_:=(Option.bind_some _ _).symm.trans H;rw [hy418];with_reducible exact H2_)|(have H2_:=(Option.bind_some _ _).symm.trans H;with_reducible exact H2_)|with_reducible exact H|(rw [hy418];exact H)|exact H
   have Ny418:=Aside0.mk hy418
   clear hy418
   by_cases c6:y418.length + l1_1.length < 4398046511104
   ·rw [if_pos c6] at H
    have LMc6:=Aside0.mk c6
    clear c6
    obtain ⟨y421,hy421⟩:∃ y_:List (S43),y_=(y418 ++ l1_1):=⟨_,rfl⟩
    replace H:(some (true,y421,([]:List ByteArray),([]:List Int)))=some (r1,r2,r3,r4):=by first|(rw [hy421];with_reducible exact H)|(have H2_:=(Option.bind_some _ _).symm.trans H;rw [hy421];with_reducible exact H2_)|(have H2_:=(Option.bind_some _ _).symm.trans H;with_reducible exact H2_)|with_reducible exact H|(rw [hy421];exact H)|exact H
    have Ny421:=Aside0.mk hy421
    clear hy421
    simp only [Option.some.injEq,Prod.mk.injEq] at H
    obtain ⟨rfl,rfl,rfl,rfl⟩:=H
    go_enter Try.func20,Try.ntmps20
    try go_wp2_with (first|((with_reducible refine gate_dst (N:=3) rfl ?_);refine box_event ?hg (N:=3) ?hd (cs:=#[.bool true,.slice A0_1 l0_1.length c0_1,.slice A0_2 l0_2.length c0_2,.slice A0_3 l0_3.length c0_3]) (t:=26) ?hr ?_;(case hd=>rfl);(case hg=>rfl);(case hr=>first|(go_simp;done)|(go_simp;rfl));intro gb415 hg w7 hbox hb;have BK415:=Aside0.mk (hbox);have GW415:=Aside0.mk ((by rw [hg];exact (below_size (by repeat (first|(with_reducible first|exact HB.out|apply zl1|apply zl2|apply zl3)|exact HB.out))):w.heap.size≤gb415));have GE415:=Aside0.mk ((by rw [hg];exact (below_size (by repeat (first|(with_reducible first|exact HB.out|apply zl1|apply zl2|apply zl3)|exact HB.out))):w.heap.size≤gb415));replace HB:=Aside0.mk (below_step (by repeat (first|(with_reducible first|exact HB.out|apply zl1|apply zl2|apply zl3)|exact HB.out)) hb);clear hb hbox hg)|((with_reducible refine gate_dst (N:=4) rfl ?_);refine box_event ?hg (N:=4) ?hd (cs:=#[.bool a1_0,.slice A1_1 l1_1.length c1_1,.slice A1_2 l1_2.length c1_2,.slice A1_3 l1_3.length c1_3]) (t:=26) ?hr ?_;(case hd=>rfl);(case hg=>rfl);(case hr=>first|(go_simp;done)|(go_simp;rfl));intro gb416 hg w8 hbox hb;have BK416:=Aside0.mk (hbox);have GW416:=Aside0.mk ((by rw [hg];exact (below_size (by repeat (first|(with_reducible first|exact HB.out|apply zl1|apply zl2|apply zl3|refine below_set ?_ GE415.out)|exact HB.out))):w.heap.size≤gb416));have GE416:=Aside0.mk ((by rw [hg];exact (below_size (by repeat (first|(with_reducible first|exact HB.out|apply zl1|apply zl2|apply zl3|refine below_set ?_ GE415.out)|exact HB.out))):w.heap.size≤gb416));replace HB:=Aside0.mk (below_step (by repeat (first|(with_reducible first|exact HB.out|apply zl1|apply zl2|apply zl3|refine below_set ?_ GE415.out)|exact HB.out)) hb);have NB415_416:=Aside0.mk ((by rw [hg];exact Nat.ne_of_lt (blk_lt (g:=gb415) (o:=.cells #[.bool true,.slice A0_1 l0_1.length c0_1,.slice A0_2 l0_2.length c0_2,.slice A0_3 l0_3.length c0_3] 26 (0,0)) (by (with_reducible repeat (first|apply zb1|apply zb2|apply zb3));exact BK415.out)):gb415 ≠ gb416));have NB416_415:=Aside0.mk ((by rw [hg];exact Nat.ne_of_gt (blk_lt (g:=gb415) (o:=.cells #[.bool true,.slice A0_1 l0_1.length c0_1,.slice A0_2 l0_2.length c0_2,.slice A0_3 l0_3.length c0_3] 26 (0,0)) (by (with_reducible repeat (first|apply zb1|apply zb2|apply zb3));exact BK415.out)):gb416 ≠ gb415));replace BK415:=Aside0.mk (blk_below (g:=gb415) (o:=.cells #[.bool true,.slice A0_1 l0_1.length c0_1,.slice A0_2 l0_2.length c0_2,.slice A0_3 l0_3.length c0_3] 26 (0,0)) (by (with_reducible repeat (first|apply zb1|apply zb2|apply zb3));exact BK415.out) hb);clear hb hbox hg)|((with_reducible refine gate_dst (N:=6) rfl ?_);refine box_event ?hg (N:=6) ?hd (cs:=#[.bool false,.slice none 0 0,.slice none 0 0,.slice none 0 0]) (t:=26) ?hr ?_;(case hd=>rfl);(case hg=>rfl);(case hr=>first|(go_simp;done)|(go_simp;rfl));intro gb417 hg w9 hbox hb;have BK417:=Aside0.mk (hbox);have GW417:=Aside0.mk ((by rw [hg];exact (below_size (by repeat (first|(with_reducible first|exact HB.out|apply zl1|apply zl2|apply zl3|refine below_set ?_ GE415.out|refine below_set ?_ GE416.out)|exact HB.out))):w.heap.size≤gb417));have GE417:=Aside0.mk ((by rw [hg];exact (below_size (by repeat (first|(with_reducible first|exact HB.out|apply zl1|apply zl2|apply zl3|refine below_set ?_ GE415.out|refine below_set ?_ GE416.out)|exact HB.out))):w.heap.size≤gb417));replace HB:=Aside0.mk (below_step (by repeat (first|(with_reducible first|exact HB.out|apply zl1|apply zl2|apply zl3|refine below_set ?_ GE415.out|refine below_set ?_ GE416.out)|exact HB.out)) hb);have NB415_417:=Aside0.mk ((by rw [hg];exact Nat.ne_of_lt (blk_lt (g:=gb415) (o:=.cells #[.bool true,.slice A0_1 l0_1.length c0_1,.slice A0_2 l0_2.length c0_2,.slice A0_3 l0_3.length c0_3] 26 (0,0)) (by (with_reducible repeat (first|apply zb1|apply zb2|apply zb3));exact BK415.out)):gb415 ≠ gb417));have NB417_415:=Aside0.mk ((by rw [hg];exact Nat.ne_of_gt (blk_lt (g:=gb415) (o:=.cells #[.bool true,.slice A0_1 l0_1.length c0_1,.slice A0_2 l0_2.length c0_2,.slice A0_3 l0_3.length c0_3] 26 (0,0)) (by (with_reducible repeat (first|apply zb1|apply zb2|apply zb3));exact BK415.out)):gb417 ≠ gb415));replace BK415:=Aside0.mk (blk_below (g:=gb415) (o:=.cells #[.bool true,.slice A0_1 l0_1.length c0_1,.slice A0_2 l0_2.length c0_2,.slice A0_3 l0_3.length c0_3] 26 (0,0)) (by (with_reducible repeat (first|apply zb1|apply zb2|apply zb3));exact BK415.out) hb);have NB416_417:=Aside0.mk ((by rw [hg];exact Nat.ne_of_lt (blk_lt (g:=gb416) (o:=.cells #[.bool a1_0,.slice A1_1 l1_1.length c1_1,.slice A1_2 l1_2.length c1_2,.slice A1_3 l1_3.length c1_3] 26 (0,0)) (by (with_reducible repeat (first|apply zb1|apply zb2|apply zb3));exact BK416.out)):gb416 ≠ gb417));have NB417_416:=Aside0.mk ((by rw [hg];exact Nat.ne_of_gt (blk_lt (g:=gb416) (o:=.cells #[.bool a1_0,.slice A1_1 l1_1.length c1_1,.slice A1_2 l1_2.length c1_2,.slice A1_3 l1_3.length c1_3] 26 (0,0)) (by (with_reducible repeat (first|apply zb1|apply zb2|apply zb3));exact BK416.out)):gb417 ≠ gb416));replace BK416:=Aside0.mk (blk_below (g:=gb416) (o:=.cells #[.bool a1_0,.slice A1_1 l1_1.length c1_1,.slice A1_2 l1_2.length c1_2,.slice A1_3 l1_3.length c1_3] 26 (0,0)) (by (with_reducible repeat (first|apply zb1|apply zb2|apply zb3));exact BK416.out) hb);clear hb hbox hg;have hnb10:=NB415_416.out;have hnc10:=NB416_415.out;have hnb11:=NB415_417.out;have hnc11:=NB417_415.out;obtain ⟨hcz12_0,hcz12_1,hcz12_2,hcz12_3⟩:=zc4 BK415.out;obtain ⟨hfz12_0,hfz12_1,hfz12_2,hfz12_3⟩:=zf4 BK415.out))
    replace BK415:=Aside0.mk (blk_drew BK415.out)
    replace BK416:=Aside0.mk (blk_drew BK416.out)
    replace BK417:=Aside0.mk (blk_drew BK417.out)
    replace HB:=Aside0.mk (below_drew1 HB.out)
    refine start_ (n:=8) (S:=fun w'=>w'.cell? ⟨gb415,0,none⟩=some (.bool true)∧w'.cell? ⟨gb415,1,none⟩=some (.slice A0_1 l0_1.length c0_1)∧w'.cell? ⟨gb415,2,none⟩=some (.slice A0_2 l0_2.length c0_2)∧w'.cell? ⟨gb415,3,none⟩=some (.slice A0_3 l0_3.length c0_3)∧w'.cell? ⟨gb416,0,none⟩=some (.bool a1_0)∧w'.cell? ⟨gb416,1,none⟩=some (.slice A1_1 l1_1.length c1_1)∧w'.cell? ⟨gb416,2,none⟩=some (.slice A1_2 l1_2.length c1_2)∧w'.cell? ⟨gb416,3,none⟩=some (.slice A1_3 l1_3.length c1_3)) (ds:=[]) #[false,false,false,false,false,false,false,false] (by kernel_rfl) rfl rfl ⟨(blk_cell BK415.out 0).trans rfl,(blk_cell BK415.out 1).trans rfl,(blk_cell BK415.out 2).trans rfl,(blk_cell BK415.out 3).trans rfl,(blk_cell BK416.out 0).trans rfl,(blk_cell BK416.out 1).trans rfl,(blk_cell BK416.out 2).trans rfl,(blk_cell BK416.out 3).trans rfl⟩ (fun hHeld=>?_);refine with_tabW factotumref09_Join.tab2 factotumref09_Join.bits2 (fun HT_ HW_=>?_)
    generalize w9.drew=w13 at BK415 BK416 BK417 HB hHeld ⊢
    refine pure_ (i:=0) (N:=some 9) (v:=?_) (a':=?_) #[true,false,false,false,false,false,false,false] rfl rfl (any_of HT_.out (by kernel_rfl)) (fun _ _ _ h=>h) (Or.inl ⟨by rfl,?_⟩) ?_ ?_
    rotate_left
    ·intro w'
     go_simp
     with_reducible rfl
    rotate_left
    ·simp only [Act.put,List.setIfInBounds_toArray,List.set_cons_zero,List.set_cons_succ,i64_w,i32_w]
     rfl
    refine pure_ (i:=3) (N:=some 12) (v:=?_) (a':=?_) #[true,false,false,true,false,false,false,false] rfl rfl (any_of HT_.out (by kernel_rfl)) (fun _ _ _ h=>h) (Or.inl ⟨by rfl,?_⟩) ?_ ?_
    rotate_left
    ·intro w'
     go_simp
     with_reducible rfl
    rotate_left
    ·simp only [Act.put,List.setIfInBounds_toArray,List.set_cons_zero,List.set_cons_succ,i64_w,i32_w]
     rfl
    refine take_ (i:=1) (N:=some 10) (v:=?_) (a':=?_) #[true,true,false,true,false,false,false,false] rfl rfl (take_ofW HT_.out HW_.out (by kernel_rfl)) (fun _ _ _ h=>h) (Or.inl ⟨by rfl,?_⟩) hHeld ?_ ?_
    rotate_left
    ·rintro w' ⟨s0,s1,s2,s3,s4,s5,s6,s7⟩
     go_simp
     with_reducible rfl
    rotate_left
    ·simp only [Act.put,List.setIfInBounds_toArray,List.set_cons_zero,List.set_cons_succ,i64_w,i32_w]
     rfl
    refine take_ (i:=4) (N:=some 13) (v:=?_) (a':=?_) #[true,true,false,true,true,false,false,false] rfl rfl (take_ofW HT_.out HW_.out (by kernel_rfl)) (fun _ _ _ h=>h) (Or.inl ⟨by rfl,?_⟩) hHeld ?_ ?_
    rotate_left
    ·rintro w' ⟨s0,s1,s2,s3,s4,s5,s6,s7⟩
     go_simp
     with_reducible rfl
    rotate_left
    ·simp only [Act.put,List.setIfInBounds_toArray,List.set_cons_zero,List.set_cons_succ,i64_w,i32_w]
     rfl
    refine one_ (i:=2) (N:=some 11) #[true,true,true,true,true,false,false,false] rfl rfl (one_of HT_.out (by kernel_rfl)) (by decide) (fun K hK=>?_)
    refine Kd.R_append_rows_step k43 (w0:=w) w.heap.size (by rfl) (.const (.slice none 0 0)) (.tmp 10) 22 43 (.agg #[(.string ⟨#[]⟩),(.string ⟨#[]⟩)]) 32 rfl Try.underlying22 info43 rfl (by decide) (by omega) (.slice none 0 0) ([]:List (S43)) l0_1 _ _ _ (fun _=>True) (fun _=>False) rfl rfl ?aO ?aR (fun _ _ h=>h) (fun _ h=>h.elim) ?aF ?aB ?aS ?aL ?_
    (case aR=>repeat (first|exact (Kd.C_below HR0_1.out HB.out)|(with_reducible refine Kd.C_alloc ?_ _)|(with_reducible refine Kd.C_drewN ?_ _)|(with_reducible refine Kd.C_drew ?_)))
    (case aB=>exact (by repeat (first|(with_reducible first|exact HB.out|apply zl1|apply zl2|apply zl3|refine below_set ?_ GE415.out|refine below_set ?_ GE416.out|refine below_set ?_ GE417.out)|exact HB.out)))
    (case aF=>exact (fun _ _=>trivial))
    (case aO=>exact ((Kd.R_nil _ _ _ _ (fun _=>True))))
    (case aS=>exact (below_size (by repeat (first|(with_reducible first|exact HB.out|apply zl1|apply zl2|apply zl3|refine below_set ?_ GE415.out|refine below_set ?_ GE416.out|refine below_set ?_ GE417.out)|exact HB.out))))
    (case aL=>have:=LMc5.out;omega)
    intro v419 w14 ho hb hg hat
    rw [← Ny418.out] at ho
    replace BK415:=Aside0.mk (blk_grown (g:=gb415) (o:=.cells #[.bool true,.slice A0_1 l0_1.length c0_1,.slice A0_2 l0_2.length c0_2,.slice A0_3 l0_3.length c0_3] 26 (0,0)) (by (with_reducible repeat (first|apply zb1|apply zb2|apply zb3));exact BK415.out) hg (by simp [Value.ownBlock]))
    replace BK416:=Aside0.mk (blk_grown (g:=gb416) (o:=.cells #[.bool a1_0,.slice A1_1 l1_1.length c1_1,.slice A1_2 l1_2.length c1_2,.slice A1_3 l1_3.length c1_3] 26 (0,0)) (by (with_reducible repeat (first|apply zb1|apply zb2|apply zb3));exact BK416.out) hg (by simp [Value.ownBlock]))
    replace BK417:=Aside0.mk (blk_grown (g:=gb417) (o:=.cells #[.bool false,.slice none 0 0,.slice none 0 0,.slice none 0 0] 26 (0,0)) (by (with_reducible repeat (first|apply zb1|apply zb2|apply zb3));exact BK417.out) hg (by simp [Value.ownBlock]))
    replace HB:=Aside0.mk (hb)
    have HO420:=Aside0.mk (ho)
    clear ho hb hg hat
    refine hK.out _ _ ⟨(blk_cell BK415.out 0).trans rfl,(blk_cell BK415.out 1).trans rfl,(blk_cell BK415.out 2).trans rfl,(blk_cell BK415.out 3).trans rfl,(blk_cell BK416.out 0).trans rfl,(blk_cell BK416.out 1).trans rfl,(blk_cell BK416.out 2).trans rfl,(blk_cell BK416.out 3).trans rfl⟩ (fun hHeld=>?_)
    clear hK K
    refine norm_ (a':=?_) ?_ ?_
    rotate_left
    ·show Act.put _ (some 11) _=_
     simp only [Act.put,List.setIfInBounds_toArray,List.set_cons_zero,List.set_cons_succ,i64_w,i32_w]
     rfl
    refine one_ (i:=5) (N:=some 14) #[true,true,true,true,true,true,false,false] rfl rfl (one_of HT_.out (by kernel_rfl)) (by decide) (fun K hK=>?_)
    refine Kd.R_append_rows_step k43 (w0:=w) w.heap.size (by rfl) (.tmp 11) (.tmp 13) 22 43 (.agg #[(.string ⟨#[]⟩),(.string ⟨#[]⟩)]) 32 rfl Try.underlying22 info43 rfl (by decide) (by omega) v419 y418 l1_1 _ _ _ (fun _=>True) (fun _=>False) rfl rfl ?aO ?aR (fun _ _ h=>h) (fun _ h=>h.elim) ?aF ?aB ?aS ?aL ?_
    (case aR=>repeat (first|exact (Kd.C_below HR1_1.out HB.out)|(with_reducible refine Kd.C_alloc ?_ _)|(with_reducible refine Kd.C_drewN ?_ _)|(with_reducible refine Kd.C_drew ?_)))
    (case aB=>exact (by repeat (first|(with_reducible first|exact HB.out|apply zl1|apply zl2|apply zl3|refine below_set ?_ GE415.out|refine below_set ?_ GE416.out|refine below_set ?_ GE417.out)|exact HB.out)))
    (case aF=>exact (fun _ _=>trivial))
    (case aO=>exact (by (with_reducible repeat (first|apply zk1|apply zk2|apply zk3));exact HO420.out))
    (case aS=>exact (below_size (by repeat (first|(with_reducible first|exact HB.out|apply zl1|apply zl2|apply zl3|refine below_set ?_ GE415.out|refine below_set ?_ GE416.out|refine below_set ?_ GE417.out)|exact HB.out))))
    (case aL=>have:=LMc6.out;omega)
    intro v422 w15 ho hb hg hat
    rw [← Ny421.out] at ho
    have n0_:=Aside0.mk (blk_grown (g:=gb415) (o:=.cells #[.bool true,.slice A0_1 l0_1.length c0_1,.slice A0_2 l0_2.length c0_2,.slice A0_3 l0_3.length c0_3] 26 (0,0)) (by (with_reducible repeat (first|apply zb1|apply zb2|apply zb3));exact BK415.out) hg (Kd.R_ne HO420.out BK415.out (by decide)))
    have n1_:=Aside0.mk (blk_grown (g:=gb416) (o:=.cells #[.bool a1_0,.slice A1_1 l1_1.length c1_1,.slice A1_2 l1_2.length c1_2,.slice A1_3 l1_3.length c1_3] 26 (0,0)) (by (with_reducible repeat (first|apply zb1|apply zb2|apply zb3));exact BK416.out) hg (Kd.R_ne HO420.out BK416.out (by decide)))
    have n2_:=Aside0.mk (blk_grown (g:=gb417) (o:=.cells #[.bool false,.slice none 0 0,.slice none 0 0,.slice none 0 0] 26 (0,0)) (by (with_reducible repeat (first|apply zb1|apply zb2|apply zb3));exact BK417.out) hg (Kd.R_ne HO420.out BK417.out (by decide)))
    have n3_:=Aside0.mk (hb)
    have n4_:=Aside0.mk (ho)
    clear BK415
    clear BK416
    clear BK417
    clear HB
    clear HO420
    have BK415:=n0_
    have BK416:=n1_
    have BK417:=n2_
    have HB:=n3_
    have HO423:=n4_
    clear n0_ n1_ n2_ n3_ n4_
    clear ho hb hg hat
    obtain ⟨Ao16,co16,eo16⟩:=Kd.R_slice HO423.out
    (first|subst eo16|(injection eo16 with f1_ f2_ f3_;have f4_:=f1_.symm;have f5_:=f3_.symm;clear f1_ f2_ f3_;subst f4_;subst f5_))
    refine hK.out _ _ ⟨(blk_cell BK415.out 0).trans rfl,(blk_cell BK415.out 1).trans rfl,(blk_cell BK415.out 2).trans rfl,(blk_cell BK415.out 3).trans rfl,(blk_cell BK416.out 0).trans rfl,(blk_cell BK416.out 1).trans rfl,(blk_cell BK416.out 2).trans rfl,(blk_cell BK416.out 3).trans rfl⟩ (fun hHeld=>?_)
    clear hK K
    refine norm_ (a':=?_) ?_ ?_
    rotate_left
    ·show Act.put _ (some 14) _=_
     simp only [Act.put,List.setIfInBounds_toArray,List.set_cons_zero,List.set_cons_succ,i64_w,i32_w]
     rfl
    refine pure_ (i:=6) (N:=some 15) (v:=?_) (a':=?_) #[true,true,true,true,true,true,true,false] rfl rfl (any_of HT_.out (by kernel_rfl)) (fun _ _ _ h=>h) (Or.inl ⟨by rfl,?_⟩) ?_ ?_
    rotate_left
    ·intro w'
     go_simp
     with_reducible rfl
    rotate_left
    ·simp only [Act.put,List.setIfInBounds_toArray,List.set_cons_zero,List.set_cons_succ,i64_w,i32_w]
     rfl
    refine one_ (i:=7) (N:=none) #[true,true,true,true,true,true,true,true] rfl rfl (one_of HT_.out (by kernel_rfl)) (by decide) (fun K hK=>?_)
    have hs17:w15.cell? ⟨gb417,0,none⟩=some (.bool false):=(blk_cell BK417.out 0).trans rfl
    have hfs17:=blk_frozen BK417.out 0
    have hns17_0:=NB415_417.out
    have hns17_1:=NB416_417.out
    have hms17_0:=NB417_415.out
    have hms17_1:=NB417_416.out
    have hs18:w15.cell? ⟨gb417,1,none⟩=some (.slice none 0 0):=(blk_cell BK417.out 1).trans rfl
    have hfs18:=blk_frozen BK417.out 1
    have hns18_0:=NB415_417.out
    have hns18_1:=NB416_417.out
    have hms18_0:=NB417_415.out
    have hms18_1:=NB417_416.out
    have hs19:w15.cell? ⟨gb417,2,none⟩=some (.slice none 0 0):=(blk_cell BK417.out 2).trans rfl
    have hfs19:=blk_frozen BK417.out 2
    have hns19_0:=NB415_417.out
    have hns19_1:=NB416_417.out
    have hms19_0:=NB417_415.out
    have hms19_1:=NB417_416.out
    have hs20:w15.cell? ⟨gb417,3,none⟩=some (.slice none 0 0):=(blk_cell BK417.out 3).trans rfl
    have hfs20:=blk_frozen BK417.out 3
    have hns20_0:=NB415_417.out
    have hns20_1:=NB416_417.out
    have hms20_0:=NB417_415.out
    have hms20_1:=NB417_416.out
    refine skip_ (w1:=?_) (by rfl) rfl ?_ ?_
    rotate_left
    ·go_simp
     rfl
    refine hK.out _ _ ⟨((far4 (g:=gb417) NB415_417.out).trans (hHeld.1)),((far4 (g:=gb417) NB415_417.out).trans (hHeld.2.1)),((far4 (g:=gb417) NB415_417.out).trans (hHeld.2.2.1)),((far4 (g:=gb417) NB415_417.out).trans (hHeld.2.2.2.1)),((far4 (g:=gb417) NB416_417.out).trans (hHeld.2.2.2.2.1)),((far4 (g:=gb417) NB416_417.out).trans (hHeld.2.2.2.2.2.1)),((far4 (g:=gb417) NB416_417.out).trans (hHeld.2.2.2.2.2.2.1)),((far4 (g:=gb417) NB416_417.out).trans (hHeld.2.2.2.2.2.2.2))⟩ (fun hHeld=>?_)
    clear hK K
    refine done_ (done_of HT_.out (by kernel_rfl)) ?_
    try go_wp2
    refine bodyPost_ret (results_cell_row rfl _ _ gb417 26 #[.bool true,.slice Ao16 y421.length co16,.slice none 0 0,.slice none 0 0] (0,0) _ rfl (by apply zpe;(repeat (first|(with_reducible first|apply zb1|apply zb2|apply zb3|apply zpi|exact BK417.out)));rfl) Try.underlying26 rfl (by kernel_rfl)) rfl ?_
    exact ⟨_,_,_,by first|(with_reducible rfl)|(simp only [isEmpty_bne,Bool.not_not] <;> rfl)|rfl|(simp [*,errW_none,errW_some] <;> rfl),by (with_reducible repeat (first|apply zk1|apply zk2|apply zk3));exact Kd.R_mono (Kd.R_far (p:=⟨gb417,3,none⟩) (Kd.R_far (p:=⟨gb417,2,none⟩) (Kd.R_far (p:=⟨gb417,1,none⟩) (Kd.R_far (p:=⟨gb417,0,none⟩) (Kd.R_types HO423.out BK417.out (by decide)) (fun _ hk=>hk.2) (.bool true)) (fun _ hk=>hk.2) (.slice Ao16 y421.length co16)) (fun _ hk=>hk.2) (.slice none 0 0)) (fun _ hk=>hk.2) (.slice none 0 0)) (fun _ hk=>trivial),by first|exact Kd.R_nil _ _ _ _ _|exact Kd.N_nil _ _ _ _ _|exact Kd.V_nil _ _ _ _ _|exact Kd.Q_nil _ _ _ _ _|exact Kd.S_nil _ _ _ _ _,by first|exact Kd.R_nil _ _ _ _ _|exact Kd.N_nil _ _ _ _ _|exact Kd.V_nil _ _ _ _ _|exact Kd.Q_nil _ _ _ _ _|exact Kd.S_nil _ _ _ _ _,by repeat (first|(with_reducible first|exact HB.out|apply zl1|apply zl2|apply zl3|refine below_set ?_ GE415.out|refine below_set ?_ GE416.out|refine below_set ?_ GE417.out)|exact HB.out)⟩
   ·rw [if_neg c6] at H
    exact absurd H (by simp)
  ·rw [if_neg c5] at H
   exact absurd H (by simp)
 ·replace c4:=Bool.eq_false_iff.mpr c4
  subst c4
  have H1:(if ([]:List ByteArray).length + l0_2.length < 8796093022208 then ((some (([]:List ByteArray) ++ l0_2:List ByteArray)).bind fun y424=>((some (([a2]:List ByteArray):List ByteArray)).bind fun y427=>(if y424.length + y427.length < 8796093022208 then ((some (y424 ++ y427:List ByteArray)).bind fun y430=>(if y430.length + l1_2.length < 8796093022208 then (if ([]:List Int).length + l0_3.length < 17592186044416 then ((some (([]:List Int) ++ l0_3:List Int)).bind fun y436=>(if y436.length + l1_3.length < 17592186044416 then (some (false,([]:List (S43)),(y430 ++ l1_2),(y436 ++ l1_3))) else (none))) else (none)) else (none))) else (none)))) else (none))=some (r1,r2,r3,r4):=by rw [if_neg (show ¬ (false=true) by decide)] at H;exact H
  clear H
  have H:=H1
  clear H1
  by_cases c21:([]:List ByteArray).length + l0_2.length < 8796093022208
  ·rw [if_pos c21] at H
   have LMc21:=Aside0.mk c21
   clear c21
   obtain ⟨y424,hy424⟩:∃ y_:List ByteArray,y_=(([]:List ByteArray) ++ l0_2):=⟨_,rfl⟩
   replace H:((some (([a2]:List ByteArray):List ByteArray)).bind fun y427=>(if y424.length + y427.length < 8796093022208 then ((some (y424 ++ y427:List ByteArray)).bind fun y430=>(if y430.length + l1_2.length < 8796093022208 then (if ([]:List Int).length + l0_3.length < 17592186044416 then ((some (([]:List Int) ++ l0_3:List Int)).bind fun y436=>(if y436.length + l1_3.length < 17592186044416 then (some (false,([]:List (S43)),(y430 ++ l1_2),(y436 ++ l1_3))) else (none))) else (none)) else (none))) else (none)))=some (r1,r2,r3,r4):=by first|(rw [hy424];with_reducible exact H)|(have H2_:=(Option.bind_some _ _).symm.trans H;rw [hy424];with_reducible exact H2_)|(have H2_:=(Option.bind_some _ _).symm.trans H;with_reducible exact H2_)|with_reducible exact H|(rw [hy424];exact H)|exact H
   have Ny424:=Aside0.mk hy424
   clear hy424
   obtain ⟨y427,hy427⟩:∃ y_:List ByteArray,y_=(([a2]:List ByteArray)):=⟨_,rfl⟩
   replace H:(if y424.length + y427.length < 8796093022208 then ((some (y424 ++ y427:List ByteArray)).bind fun y430=>(if y430.length + l1_2.length < 8796093022208 then (if ([]:List Int).length + l0_3.length < 17592186044416 then ((some (([]:List Int) ++ l0_3:List Int)).bind fun y436=>(if y436.length + l1_3.length < 17592186044416 then (some (false,([]:List (S43)),(y430 ++ l1_2),(y436 ++ l1_3))) else (none))) else (none)) else (none))) else (none))=some (r1,r2,r3,r4):=by first|(rw [hy427];with_reducible exact H)|(have H2_:=(Option.bind_some _ _).symm.trans H;rw [hy427];with_reducible exact H2_)|(have H2_:=(Option.bind_some _ _).symm.trans H;with_reducible exact H2_)|with_reducible exact H|(rw [hy427];exact H)|exact H
   have Ny427:=Aside0.mk hy427
   clear hy427
   by_cases c22:y424.length + y427.length < 8796093022208
   ·rw [if_pos c22] at H
    have LMc22:=Aside0.mk c22
    clear c22
    obtain ⟨y430,hy430⟩:∃ y_:List ByteArray,y_=(y424 ++ y427):=⟨_,rfl⟩
    replace H:(if y430.length + l1_2.length < 8796093022208 then (if ([]:List Int).length + l0_3.length < 17592186044416 then ((some (([]:List Int) ++ l0_3:List Int)).bind fun y436=>(if y436.length + l1_3.length < 17592186044416 then (some (false,([]:List (S43)),(y430 ++ l1_2),(y436 ++ l1_3))) else (none))) else (none)) else (none))=some (r1,r2,r3,r4):=by first|(rw [hy430];with_reducible exact H)|(have H2_:=(Option.bind_some _ _).symm.trans H;rw [hy430];with_reducible exact H2_)|(have H2_:=(Option.bind_some _ _).symm.trans H;with_reducible exact H2_)|with_reducible exact H|(rw [hy430];exact H)|exact H
    have Ny430:=Aside0.mk hy430
    clear hy430
    by_cases c23:y430.length + l1_2.length < 8796093022208
    ·rw [if_pos c23] at H
     have LMc23:=Aside0.mk c23
     clear c23
     obtain ⟨y433,hy433⟩:∃ y_:List ByteArray,y_=(y430 ++ l1_2):=⟨_,rfl⟩
     replace H:(if ([]:List Int).length + l0_3.length < 17592186044416 then ((some (([]:List Int) ++ l0_3:List Int)).bind fun y436=>(if y436.length + l1_3.length < 17592186044416 then (some (false,([]:List (S43)),y433,(y436 ++ l1_3))) else (none))) else (none))=some (r1,r2,r3,r4):=by first|(rw [hy433];with_reducible exact H)|(have H2_:=(Option.bind_some _ _).symm.trans H;rw [hy433];with_reducible exact H2_)|(have H2_:=(Option.bind_some _ _).symm.trans H;with_reducible exact H2_)|with_reducible exact H|(rw [hy433];exact H)|exact H
     have Ny433:=Aside0.mk hy433
     clear hy433
     by_cases c24:([]:List Int).length + l0_3.length < 17592186044416
     ·rw [if_pos c24] at H
      have LMc24:=Aside0.mk c24
      clear c24
      obtain ⟨y436,hy436⟩:∃ y_:List Int,y_=(([]:List Int) ++ l0_3):=⟨_,rfl⟩
      replace H:(if y436.length + l1_3.length < 17592186044416 then (some (false,([]:List (S43)),y433,(y436 ++ l1_3))) else (none))=some (r1,r2,r3,r4):=by first|(rw [hy436];with_reducible exact H)|(have H2_:=(Option.bind_some _ _).symm.trans H;rw [hy436];with_reducible exact H2_)|(have H2_:=(Option.bind_some _ _).symm.trans H;with_reducible exact H2_)|with_reducible exact H|(rw [hy436];exact H)|exact H
      have Ny436:=Aside0.mk hy436
      clear hy436
      by_cases c25:y436.length + l1_3.length < 17592186044416
      ·rw [if_pos c25] at H
       have LMc25:=Aside0.mk c25
       clear c25
       obtain ⟨y439,hy439⟩:∃ y_:List Int,y_=(y436 ++ l1_3):=⟨_,rfl⟩
       replace H:(some (false,([]:List (S43)),y433,y439))=some (r1,r2,r3,r4):=by first|(rw [hy439];with_reducible exact H)|(have H2_:=(Option.bind_some _ _).symm.trans H;rw [hy439];with_reducible exact H2_)|(have H2_:=(Option.bind_some _ _).symm.trans H;with_reducible exact H2_)|with_reducible exact H|(rw [hy439];exact H)|exact H
       have Ny439:=Aside0.mk hy439
       clear hy439
       simp only [Option.some.injEq,Prod.mk.injEq] at H
       obtain ⟨rfl,rfl,rfl,rfl⟩:=H
       go_enter Try.func20,Try.ntmps20
       try go_wp2_with (first|((with_reducible refine gate_dst (N:=3) rfl ?_);refine box_event ?hg (N:=3) ?hd (cs:=#[.bool false,.slice A0_1 l0_1.length c0_1,.slice A0_2 l0_2.length c0_2,.slice A0_3 l0_3.length c0_3]) (t:=26) ?hr ?_;(case hd=>rfl);(case hg=>rfl);(case hr=>first|(go_simp;done)|(go_simp;rfl));intro gb415 hg w26 hbox hb;have BK415:=Aside0.mk (hbox);have GW415:=Aside0.mk ((by rw [hg];exact (below_size (by repeat (first|(with_reducible first|exact HB.out|apply zl1|apply zl2|apply zl3)|exact HB.out))):w.heap.size≤gb415));have GE415:=Aside0.mk ((by rw [hg];exact (below_size (by repeat (first|(with_reducible first|exact HB.out|apply zl1|apply zl2|apply zl3)|exact HB.out))):w.heap.size≤gb415));replace HB:=Aside0.mk (below_step (by repeat (first|(with_reducible first|exact HB.out|apply zl1|apply zl2|apply zl3)|exact HB.out)) hb);clear hb hbox hg)|((with_reducible refine gate_dst (N:=4) rfl ?_);refine box_event ?hg (N:=4) ?hd (cs:=#[.bool a1_0,.slice A1_1 l1_1.length c1_1,.slice A1_2 l1_2.length c1_2,.slice A1_3 l1_3.length c1_3]) (t:=26) ?hr ?_;(case hd=>rfl);(case hg=>rfl);(case hr=>first|(go_simp;done)|(go_simp;rfl));intro gb416 hg w27 hbox hb;have BK416:=Aside0.mk (hbox);have GW416:=Aside0.mk ((by rw [hg];exact (below_size (by repeat (first|(with_reducible first|exact HB.out|apply zl1|apply zl2|apply zl3|refine below_set ?_ GE415.out)|exact HB.out))):w.heap.size≤gb416));have GE416:=Aside0.mk ((by rw [hg];exact (below_size (by repeat (first|(with_reducible first|exact HB.out|apply zl1|apply zl2|apply zl3|refine below_set ?_ GE415.out)|exact HB.out))):w.heap.size≤gb416));replace HB:=Aside0.mk (below_step (by repeat (first|(with_reducible first|exact HB.out|apply zl1|apply zl2|apply zl3|refine below_set ?_ GE415.out)|exact HB.out)) hb);have NB415_416:=Aside0.mk ((by rw [hg];exact Nat.ne_of_lt (blk_lt (g:=gb415) (o:=.cells #[.bool false,.slice A0_1 l0_1.length c0_1,.slice A0_2 l0_2.length c0_2,.slice A0_3 l0_3.length c0_3] 26 (0,0)) (by (with_reducible repeat (first|apply zb1|apply zb2|apply zb3));exact BK415.out)):gb415 ≠ gb416));have NB416_415:=Aside0.mk ((by rw [hg];exact Nat.ne_of_gt (blk_lt (g:=gb415) (o:=.cells #[.bool false,.slice A0_1 l0_1.length c0_1,.slice A0_2 l0_2.length c0_2,.slice A0_3 l0_3.length c0_3] 26 (0,0)) (by (with_reducible repeat (first|apply zb1|apply zb2|apply zb3));exact BK415.out)):gb416 ≠ gb415));replace BK415:=Aside0.mk (blk_below (g:=gb415) (o:=.cells #[.bool false,.slice A0_1 l0_1.length c0_1,.slice A0_2 l0_2.length c0_2,.slice A0_3 l0_3.length c0_3] 26 (0,0)) (by (with_reducible repeat (first|apply zb1|apply zb2|apply zb3));exact BK415.out) hb);clear hb hbox hg)|((with_reducible refine gate_dst (N:=6) rfl ?_);refine box_event ?hg (N:=6) ?hd (cs:=#[.bool false,.slice none 0 0,.slice none 0 0,.slice none 0 0]) (t:=26) ?hr ?_;(case hd=>rfl);(case hg=>rfl);(case hr=>first|(go_simp;done)|(go_simp;rfl));intro gb417 hg w28 hbox hb;have BK417:=Aside0.mk (hbox);have GW417:=Aside0.mk ((by rw [hg];exact (below_size (by repeat (first|(with_reducible first|exact HB.out|apply zl1|apply zl2|apply zl3|refine below_set ?_ GE415.out|refine below_set ?_ GE416.out)|exact HB.out))):w.heap.size≤gb417));have GE417:=Aside0.mk ((by rw [hg];exact (below_size (by repeat (first|(with_reducible first|exact HB.out|apply zl1|apply zl2|apply zl3|refine below_set ?_ GE415.out|refine below_set ?_ GE416.out)|exact HB.out))):w.heap.size≤gb417));replace HB:=Aside0.mk (below_step (by repeat (first|(with_reducible first|exact HB.out|apply zl1|apply zl2|apply zl3|refine below_set ?_ GE415.out|refine below_set ?_ GE416.out)|exact HB.out)) hb);have NB415_417:=Aside0.mk ((by rw [hg];exact Nat.ne_of_lt (blk_lt (g:=gb415) (o:=.cells #[.bool false,.slice A0_1 l0_1.length c0_1,.slice A0_2 l0_2.length c0_2,.slice A0_3 l0_3.length c0_3] 26 (0,0)) (by (with_reducible repeat (first|apply zb1|apply zb2|apply zb3));exact BK415.out)):gb415 ≠ gb417));have NB417_415:=Aside0.mk ((by rw [hg];exact Nat.ne_of_gt (blk_lt (g:=gb415) (o:=.cells #[.bool false,.slice A0_1 l0_1.length c0_1,.slice A0_2 l0_2.length c0_2,.slice A0_3 l0_3.length c0_3] 26 (0,0)) (by (with_reducible repeat (first|apply zb1|apply zb2|apply zb3));exact BK415.out)):gb417 ≠ gb415));replace BK415:=Aside0.mk (blk_below (g:=gb415) (o:=.cells #[.bool false,.slice A0_1 l0_1.length c0_1,.slice A0_2 l0_2.length c0_2,.slice A0_3 l0_3.length c0_3] 26 (0,0)) (by (with_reducible repeat (first|apply zb1|apply zb2|apply zb3));exact BK415.out) hb);have NB416_417:=Aside0.mk ((by rw [hg];exact Nat.ne_of_lt (blk_lt (g:=gb416) (o:=.cells #[.bool a1_0,.slice A1_1 l1_1.length c1_1,.slice A1_2 l1_2.length c1_2,.slice A1_3 l1_3.length c1_3] 26 (0,0)) (by (with_reducible repeat (first|apply zb1|apply zb2|apply zb3));exact BK416.out)):gb416 ≠ gb417));have NB417_416:=Aside0.mk ((by rw [hg];exact Nat.ne_of_gt (blk_lt (g:=gb416) (o:=.cells #[.bool a1_0,.slice A1_1 l1_1.length c1_1,.slice A1_2 l1_2.length c1_2,.slice A1_3 l1_3.length c1_3] 26 (0,0)) (by (with_reducible repeat (first|apply zb1|apply zb2|apply zb3));exact BK416.out)):gb417 ≠ gb416));replace BK416:=Aside0.mk (blk_below (g:=gb416) (o:=.cells #[.bool a1_0,.slice A1_1 l1_1.length c1_1,.slice A1_2 l1_2.length c1_2,.slice A1_3 l1_3.length c1_3] 26 (0,0)) (by (with_reducible repeat (first|apply zb1|apply zb2|apply zb3));exact BK416.out) hb);clear hb hbox hg;have hnb29:=NB415_416.out;have hnc29:=NB416_415.out;have hnb30:=NB415_417.out;have hnc30:=NB417_415.out;obtain ⟨hcz31_0,hcz31_1,hcz31_2,hcz31_3⟩:=zc4 BK415.out;obtain ⟨hfz31_0,hfz31_1,hfz31_2,hfz31_3⟩:=zf4 BK415.out))
       replace BK415:=Aside0.mk (blk_drew BK415.out)
       replace BK416:=Aside0.mk (blk_drew BK416.out)
       replace BK417:=Aside0.mk (blk_drew BK417.out)
       replace HB:=Aside0.mk (below_drew1 HB.out)
       refine start_ (n:=17) (S:=fun w'=>w'.cell? ⟨gb415,0,none⟩=some (.bool false)∧w'.cell? ⟨gb415,1,none⟩=some (.slice A0_1 l0_1.length c0_1)∧w'.cell? ⟨gb415,2,none⟩=some (.slice A0_2 l0_2.length c0_2)∧w'.cell? ⟨gb415,3,none⟩=some (.slice A0_3 l0_3.length c0_3)∧w'.cell? ⟨gb416,0,none⟩=some (.bool a1_0)∧w'.cell? ⟨gb416,1,none⟩=some (.slice A1_1 l1_1.length c1_1)∧w'.cell? ⟨gb416,2,none⟩=some (.slice A1_2 l1_2.length c1_2)∧w'.cell? ⟨gb416,3,none⟩=some (.slice A1_3 l1_3.length c1_3)) (ds:=[]) #[false,false,false,false,false,false,false,false,false,false,false,false,false,false,false,false,false] (by kernel_rfl) rfl rfl ⟨(blk_cell BK415.out 0).trans rfl,(blk_cell BK415.out 1).trans rfl,(blk_cell BK415.out 2).trans rfl,(blk_cell BK415.out 3).trans rfl,(blk_cell BK416.out 0).trans rfl,(blk_cell BK416.out 1).trans rfl,(blk_cell BK416.out 2).trans rfl,(blk_cell BK416.out 3).trans rfl⟩ (fun hHeld=>?_);refine with_tabW factotumref09_Join.tab3 factotumref09_Join.bits3 (fun HT_ HW_=>?_)
       generalize w28.drew=w32 at BK415 BK416 BK417 HB hHeld ⊢
       refine pure_ (i:=0) (N:=some 16) (v:=?_) (a':=?_) #[true,false,false,false,false,false,false,false,false,false,false,false,false,false,false,false,false] rfl rfl (any_of HT_.out (by kernel_rfl)) (fun _ _ _ h=>h) (Or.inl ⟨by rfl,?_⟩) ?_ ?_
       rotate_left
       ·intro w'
        go_simp
        with_reducible rfl
       rotate_left
       ·simp only [Act.put,List.setIfInBounds_toArray,List.set_cons_zero,List.set_cons_succ,i64_w,i32_w]
        rfl
       refine pure_ (i:=3) (N:=some 19) (v:=?_) (a':=?_) #[true,false,false,true,false,false,false,false,false,false,false,false,false,false,false,false,false] rfl rfl (any_of HT_.out (by kernel_rfl)) (fun _ _ _ h=>h) (Or.inl ⟨by rfl,?_⟩) ?_ ?_
       rotate_left
       ·intro w'
        go_simp
        with_reducible rfl
       rotate_left
       ·simp only [Act.put,List.setIfInBounds_toArray,List.set_cons_zero,List.set_cons_succ,i64_w,i32_w]
        rfl
       refine pure_ (i:=6) (N:=some 22) (v:=?_) (a':=?_) #[true,false,false,true,false,false,true,false,false,false,false,false,false,false,false,false,false] rfl rfl (any_of HT_.out (by kernel_rfl)) (fun _ _ _ h=>h) (Or.inl ⟨by rfl,?_⟩) ?_ ?_
       rotate_left
       ·intro w'
        go_simp
        with_reducible rfl
       rotate_left
       ·simp only [Act.put,List.setIfInBounds_toArray,List.set_cons_zero,List.set_cons_succ,i64_w,i32_w]
        rfl
       refine pure_ (i:=9) (N:=some 25) (v:=?_) (a':=?_) #[true,false,false,true,false,false,true,false,false,true,false,false,false,false,false,false,false] rfl rfl (any_of HT_.out (by kernel_rfl)) (fun _ _ _ h=>h) (Or.inl ⟨by rfl,?_⟩) ?_ ?_
       rotate_left
       ·intro w'
        go_simp
        with_reducible rfl
       rotate_left
       ·simp only [Act.put,List.setIfInBounds_toArray,List.set_cons_zero,List.set_cons_succ,i64_w,i32_w]
        rfl
       refine pure_ (i:=12) (N:=some 28) (v:=?_) (a':=?_) #[true,false,false,true,false,false,true,false,false,true,false,false,true,false,false,false,false] rfl rfl (any_of HT_.out (by kernel_rfl)) (fun _ _ _ h=>h) (Or.inl ⟨by rfl,?_⟩) ?_ ?_
       rotate_left
       ·intro w'
        go_simp
        with_reducible rfl
       rotate_left
       ·simp only [Act.put,List.setIfInBounds_toArray,List.set_cons_zero,List.set_cons_succ,i64_w,i32_w]
        rfl
       refine take_ (i:=1) (N:=some 17) (v:=?_) (a':=?_) #[true,true,false,true,false,false,true,false,false,true,false,false,true,false,false,false,false] rfl rfl (take_ofW HT_.out HW_.out (by kernel_rfl)) (fun _ _ _ h=>h) (Or.inl ⟨by rfl,?_⟩) hHeld ?_ ?_
       rotate_left
       ·rintro w' ⟨s0,s1,s2,s3,s4,s5,s6,s7⟩
        go_simp
        with_reducible rfl
       rotate_left
       ·simp only [Act.put,List.setIfInBounds_toArray,List.set_cons_zero,List.set_cons_succ,i64_w,i32_w]
        rfl
       refine take_ (i:=7) (N:=some 23) (v:=?_) (a':=?_) #[true,true,false,true,false,false,true,true,false,true,false,false,true,false,false,false,false] rfl rfl (take_ofW HT_.out HW_.out (by kernel_rfl)) (fun _ _ _ h=>h) (Or.inl ⟨by rfl,?_⟩) hHeld ?_ ?_
       rotate_left
       ·rintro w' ⟨s0,s1,s2,s3,s4,s5,s6,s7⟩
        go_simp
        with_reducible rfl
       rotate_left
       ·simp only [Act.put,List.setIfInBounds_toArray,List.set_cons_zero,List.set_cons_succ,i64_w,i32_w]
        rfl
       refine take_ (i:=10) (N:=some 26) (v:=?_) (a':=?_) #[true,true,false,true,false,false,true,true,false,true,true,false,true,false,false,false,false] rfl rfl (take_ofW HT_.out HW_.out (by kernel_rfl)) (fun _ _ _ h=>h) (Or.inl ⟨by rfl,?_⟩) hHeld ?_ ?_
       rotate_left
       ·rintro w' ⟨s0,s1,s2,s3,s4,s5,s6,s7⟩
        go_simp
        with_reducible rfl
       rotate_left
       ·simp only [Act.put,List.setIfInBounds_toArray,List.set_cons_zero,List.set_cons_succ,i64_w,i32_w]
        rfl
       refine take_ (i:=13) (N:=some 29) (v:=?_) (a':=?_) #[true,true,false,true,false,false,true,true,false,true,true,false,true,true,false,false,false] rfl rfl (take_ofW HT_.out HW_.out (by kernel_rfl)) (fun _ _ _ h=>h) (Or.inl ⟨by rfl,?_⟩) hHeld ?_ ?_
       rotate_left
       ·rintro w' ⟨s0,s1,s2,s3,s4,s5,s6,s7⟩
        go_simp
        with_reducible rfl
       rotate_left
       ·simp only [Act.put,List.setIfInBounds_toArray,List.set_cons_zero,List.set_cons_succ,i64_w,i32_w]
        rfl
       refine join_ (σ:=Value × Value) 6 #[true,true,true,true,true,false,true,true,false,true,true,false,true,true,false,false,false] (fun s_=>[(18,s_.1),(20,s_.2)]) (fun s_ w'=>(w'.cell? ⟨gb415,0,none⟩=some (.bool false)∧w'.cell? ⟨gb415,1,none⟩=some (.slice A0_1 l0_1.length c0_1)∧w'.cell? ⟨gb415,2,none⟩=some (.slice A0_2 l0_2.length c0_2)∧w'.cell? ⟨gb415,3,none⟩=some (.slice A0_3 l0_3.length c0_3)∧w'.cell? ⟨gb416,0,none⟩=some (.bool a1_0)∧w'.cell? ⟨gb416,1,none⟩=some (.slice A1_1 l1_1.length c1_1)∧w'.cell? ⟨gb416,2,none⟩=some (.slice A1_2 l1_2.length c1_2)∧w'.cell? ⟨gb416,3,none⟩=some (.slice A1_3 l1_3.length c1_3))∧(Kd.R Kd.string 9 w' w.heap.size (fun k_=>some k_ ≠ (s_.2:Value).ownBlock) s_.1 y424)∧(Kd.R Kd.string 9 w' w.heap.size (fun k_=>some k_ ≠ (s_.1:Value).ownBlock) s_.2 y427)∧(w'.heap[gb415]?=some (.cells #[.bool false,.slice A0_1 l0_1.length c0_1,.slice A0_2 l0_2.length c0_2,.slice A0_3 l0_3.length c0_3] 26 (0,0)))∧(w'.heap[gb416]?=some (.cells #[.bool a1_0,.slice A1_1 l1_1.length c1_1,.slice A1_2 l1_2.length c1_2,.slice A1_3 l1_3.length c1_3] 26 (0,0)))∧(w'.heap[gb417]?=some (.cells #[.bool false,.slice none 0 0,.slice none 0 0,.slice none 0 0] 26 (0,0)))∧(Below w.heap.size w w')) ?_ ?_
       rotate_left
       ·intro hCont
        refine two_ (i:=2) (j:=4) (Ni:=some 18) (Nj:=some 20) #[true,true,true,true,false,false,true,true,false,true,true,false,true,true,false,false,false] #[true,true,false,true,true,false,true,true,false,true,true,false,true,true,false,false,false] rfl rfl rfl rfl (two_of HT_.out (by kernel_rfl)) (by decide) (by decide) (fun K hK=>?_) (fun K hK=>?_)
        ·skip
         refine Kd.R_append_rows_step Kd.string (w0:=w) w.heap.size (by rfl) (.const (.slice none 0 0)) (.tmp 17) 23 9 (.string ⟨#[]⟩) 16 rfl Try.underlying23 info9 rfl (by decide) (by omega) (.slice none 0 0) ([]:List ByteArray) l0_2 _ _ _ (fun _=>True) (fun _=>False) rfl rfl ?aO ?aR (fun _ _ h=>h) (fun _ h=>h.elim) ?aF ?aB ?aS ?aL ?_
         (case aR=>repeat (first|exact (Kd.C_below HR0_2.out HB.out)|(with_reducible refine Kd.C_alloc ?_ _)|(with_reducible refine Kd.C_drewN ?_ _)|(with_reducible refine Kd.C_drew ?_)))
         (case aB=>exact (by repeat (first|(with_reducible first|exact HB.out|apply zl1|apply zl2|apply zl3|refine below_set ?_ GE415.out|refine below_set ?_ GE416.out|refine below_set ?_ GE417.out)|exact HB.out)))
         (case aF=>exact (fun _ _=>trivial))
         (case aO=>exact ((Kd.R_nil _ _ _ _ (fun _=>True))))
         (case aS=>exact (below_size (by repeat (first|(with_reducible first|exact HB.out|apply zl1|apply zl2|apply zl3|refine below_set ?_ GE415.out|refine below_set ?_ GE416.out|refine below_set ?_ GE417.out)|exact HB.out))))
         (case aL=>have:=LMc21.out;omega)
         intro v425 w33 ho hb hg hat
         rw [← Ny424.out] at ho
         replace BK415:=Aside0.mk (blk_grown (g:=gb415) (o:=.cells #[.bool false,.slice A0_1 l0_1.length c0_1,.slice A0_2 l0_2.length c0_2,.slice A0_3 l0_3.length c0_3] 26 (0,0)) (by (with_reducible repeat (first|apply zb1|apply zb2|apply zb3));exact BK415.out) hg (by simp [Value.ownBlock]))
         replace BK416:=Aside0.mk (blk_grown (g:=gb416) (o:=.cells #[.bool a1_0,.slice A1_1 l1_1.length c1_1,.slice A1_2 l1_2.length c1_2,.slice A1_3 l1_3.length c1_3] 26 (0,0)) (by (with_reducible repeat (first|apply zb1|apply zb2|apply zb3));exact BK416.out) hg (by simp [Value.ownBlock]))
         replace BK417:=Aside0.mk (blk_grown (g:=gb417) (o:=.cells #[.bool false,.slice none 0 0,.slice none 0 0,.slice none 0 0] 26 (0,0)) (by (with_reducible repeat (first|apply zb1|apply zb2|apply zb3));exact BK417.out) hg (by simp [Value.ownBlock]))
         replace HB:=Aside0.mk (hb)
         have HO426:=Aside0.mk (ho)
         clear ho hb hg hat
         refine hK.out _ _ ⟨(blk_cell BK415.out 0).trans rfl,(blk_cell BK415.out 1).trans rfl,(blk_cell BK415.out 2).trans rfl,(blk_cell BK415.out 3).trans rfl,(blk_cell BK416.out 0).trans rfl,(blk_cell BK416.out 1).trans rfl,(blk_cell BK416.out 2).trans rfl,(blk_cell BK416.out 3).trans rfl⟩ (fun hHeld=>?_)
         clear hK K
         refine norm_ (a':=?_) ?_ ?_
         rotate_left
         ·show Act.put _ (some 18) _=_
          simp only [Act.put,List.setIfInBounds_toArray,List.set_cons_zero,List.set_cons_succ,i64_w,i32_w]
          rfl
         refine one_ (i:=4) (N:=some 20) #[true,true,true,true,true,false,true,true,false,true,true,false,true,true,false,false,false] rfl rfl (one_of HT_.out (by kernel_rfl)) (by decide) (fun K hK=>?_)
         refine Kd.R_lit_step Kd.string _ 9 ?hg (N:=20) ?hd (xs:=([a2]:List ByteArray)) (inner:=[.string a2]) (ok:=fun _=>True) (okp:=fun _=>True) ?hr ?hp (fun _ hk=>hk) trivial (Below.refl _ _) (Nat.le_refl _) (by simp) ?_;(case hd=>rfl);(case hg=>rfl);(case hr=>first|(go_simp;done)|(go_simp;rfl));(case hp=>exact (Reps.one (show Kd.M Kd.string _ _ _ a2 [.string a2] from rfl) (Reps.none _ _)))
         intro v428 w34 ho35 hb hg_ hnew_
         clear hg_ hnew_
         (first|rw [← Ny427.out] at ho35|(simp only [Int.reduceToNat] at ho35;rw [← Ny427.out] at ho35))
         have HO429:=Aside0.mk (Kd.R_lower (Kd.R_new' ho35 (Kd.R_lt (by (with_reducible repeat (first|apply zk1|apply zk2|apply zk3));exact HO426.out))) (below_size (by repeat (first|(with_reducible first|exact HB.out|apply zl1|apply zl2|apply zl3|refine below_set ?_ GE415.out|refine below_set ?_ GE416.out|refine below_set ?_ GE417.out)|exact HB.out))))
         replace HO426:=Aside0.mk (Kd.R_elder' (by (with_reducible repeat (first|apply zk1|apply zk2|apply zk3));exact HO426.out) (Kd.R_base ho35) hb)
         replace BK415:=Aside0.mk (blk_below (g:=gb415) (o:=.cells #[.bool false,.slice A0_1 l0_1.length c0_1,.slice A0_2 l0_2.length c0_2,.slice A0_3 l0_3.length c0_3] 26 (0,0)) (by (with_reducible repeat (first|apply zb1|apply zb2|apply zb3));exact BK415.out) hb)
         replace BK416:=Aside0.mk (blk_below (g:=gb416) (o:=.cells #[.bool a1_0,.slice A1_1 l1_1.length c1_1,.slice A1_2 l1_2.length c1_2,.slice A1_3 l1_3.length c1_3] 26 (0,0)) (by (with_reducible repeat (first|apply zb1|apply zb2|apply zb3));exact BK416.out) hb)
         replace BK417:=Aside0.mk (blk_below (g:=gb417) (o:=.cells #[.bool false,.slice none 0 0,.slice none 0 0,.slice none 0 0] 26 (0,0)) (by (with_reducible repeat (first|apply zb1|apply zb2|apply zb3));exact BK417.out) hb)
         replace HB:=Aside0.mk (below_step (by repeat (first|(with_reducible first|exact HB.out|apply zl1|apply zl2|apply zl3|refine below_set ?_ GE415.out|refine below_set ?_ GE416.out|refine below_set ?_ GE417.out)|exact HB.out)) hb)
         clear hb ho35
         refine hK.out _ _ ⟨(blk_cell BK415.out 0).trans rfl,(blk_cell BK415.out 1).trans rfl,(blk_cell BK415.out 2).trans rfl,(blk_cell BK415.out 3).trans rfl,(blk_cell BK416.out 0).trans rfl,(blk_cell BK416.out 1).trans rfl,(blk_cell BK416.out 2).trans rfl,(blk_cell BK416.out 3).trans rfl⟩ (fun hHeld=>?_)
         clear hK K
         refine norm_ (a':=?_) ?_ ?_
         rotate_left
         ·show Act.put _ (some 20) _=_
          simp only [Act.put,List.setIfInBounds_toArray,List.set_cons_zero,List.set_cons_succ,i64_w,i32_w]
          rfl
         exact norm_ (by simp only [putAll,Act.put,List.setIfInBounds_toArray,List.set_cons_zero,List.set_cons_succ]) (hCont (v425,v428) _ ⟨hHeld,(by (with_reducible repeat (first|apply zk1|apply zk2|apply zk3));exact Kd.R_mono HO426.out (fun _ hk=>hk.2)),(by (with_reducible repeat (first|apply zk1|apply zk2|apply zk3));exact Kd.R_mono HO429.out (fun _ hk=>hk.2)),(by (with_reducible repeat (first|apply zb1|apply zb2|apply zb3));exact BK415.out),(by (with_reducible repeat (first|apply zb1|apply zb2|apply zb3));exact BK416.out),(by (with_reducible repeat (first|apply zb1|apply zb2|apply zb3));exact BK417.out),(by repeat (first|(with_reducible first|exact HB.out|apply zl1|apply zl2|apply zl3|refine below_set ?_ GE415.out|refine below_set ?_ GE416.out|refine below_set ?_ GE417.out)|exact HB.out))⟩)
        ·skip
         refine Kd.R_lit_step Kd.string _ 9 ?hg (N:=20) ?hd (xs:=([a2]:List ByteArray)) (inner:=[.string a2]) (ok:=fun _=>True) (okp:=fun _=>True) ?hr ?hp (fun _ hk=>hk) trivial (Below.refl _ _) (Nat.le_refl _) (by simp) ?_;(case hd=>rfl);(case hg=>rfl);(case hr=>first|(go_simp;done)|(go_simp;rfl));(case hp=>exact (Reps.one (show Kd.M Kd.string _ _ _ a2 [.string a2] from rfl) (Reps.none _ _)))
         intro v428 w33 ho34 hb hg_ hnew_
         clear hg_ hnew_
         (first|rw [← Ny427.out] at ho34|(simp only [Int.reduceToNat] at ho34;rw [← Ny427.out] at ho34))
         have HO429:=Aside0.mk (Kd.R_lower ho34 (below_size (by repeat (first|(with_reducible first|exact HB.out|apply zl1|apply zl2|apply zl3|refine below_set ?_ GE415.out|refine below_set ?_ GE416.out|refine below_set ?_ GE417.out)|exact HB.out))))
         replace BK415:=Aside0.mk (blk_below (g:=gb415) (o:=.cells #[.bool false,.slice A0_1 l0_1.length c0_1,.slice A0_2 l0_2.length c0_2,.slice A0_3 l0_3.length c0_3] 26 (0,0)) (by (with_reducible repeat (first|apply zb1|apply zb2|apply zb3));exact BK415.out) hb)
         replace BK416:=Aside0.mk (blk_below (g:=gb416) (o:=.cells #[.bool a1_0,.slice A1_1 l1_1.length c1_1,.slice A1_2 l1_2.length c1_2,.slice A1_3 l1_3.length c1_3] 26 (0,0)) (by (with_reducible repeat (first|apply zb1|apply zb2|apply zb3));exact BK416.out) hb)
         replace BK417:=Aside0.mk (blk_below (g:=gb417) (o:=.cells #[.bool false,.slice none 0 0,.slice none 0 0,.slice none 0 0] 26 (0,0)) (by (with_reducible repeat (first|apply zb1|apply zb2|apply zb3));exact BK417.out) hb)
         replace HB:=Aside0.mk (below_step (by repeat (first|(with_reducible first|exact HB.out|apply zl1|apply zl2|apply zl3|refine below_set ?_ GE415.out|refine below_set ?_ GE416.out|refine below_set ?_ GE417.out)|exact HB.out)) hb)
         clear hb ho34
         refine hK.out _ _ ⟨(blk_cell BK415.out 0).trans rfl,(blk_cell BK415.out 1).trans rfl,(blk_cell BK415.out 2).trans rfl,(blk_cell BK415.out 3).trans rfl,(blk_cell BK416.out 0).trans rfl,(blk_cell BK416.out 1).trans rfl,(blk_cell BK416.out 2).trans rfl,(blk_cell BK416.out 3).trans rfl⟩ (fun hHeld=>?_)
         clear hK K
         refine norm_ (a':=?_) ?_ ?_
         rotate_left
         ·show Act.put _ (some 20) _=_
          simp only [Act.put,List.setIfInBounds_toArray,List.set_cons_zero,List.set_cons_succ,i64_w,i32_w]
          rfl
         refine one_ (i:=2) (N:=some 18) #[true,true,true,true,true,false,true,true,false,true,true,false,true,true,false,false,false] rfl rfl (one_of HT_.out (by kernel_rfl)) (by decide) (fun K hK=>?_)
         refine Kd.R_append_rows_step Kd.string (w0:=w) w.heap.size (by rfl) (.const (.slice none 0 0)) (.tmp 17) 23 9 (.string ⟨#[]⟩) 16 rfl Try.underlying23 info9 rfl (by decide) (by omega) (.slice none 0 0) ([]:List ByteArray) l0_2 _ _ _ (fun k_=>some k_ ≠ (v428:Value).ownBlock) (fun _=>False) rfl rfl ?aO ?aR (fun _ _ h=>h) (fun _ h=>h.elim) ?aF ?aB ?aS ?aL ?_
         (case aR=>repeat (first|exact (Kd.C_below HR0_2.out HB.out)|(with_reducible refine Kd.C_alloc ?_ _)|(with_reducible refine Kd.C_drewN ?_ _)|(with_reducible refine Kd.C_drew ?_)))
         (case aB=>exact (by repeat (first|(with_reducible first|exact HB.out|apply zl1|apply zl2|apply zl3|refine below_set ?_ GE415.out|refine below_set ?_ GE416.out|refine below_set ?_ GE417.out)|exact HB.out)))
         (case aF=>exact (fun k_ hk=>Kd.fresh' (Kd.R_lt (by (with_reducible repeat (first|apply zk1|apply zk2|apply zk3));exact HO429.out)) k_ hk))
         (case aO=>exact ((Kd.R_nil _ _ _ _ (fun k_=>some k_ ≠ (v428:Value).ownBlock))))
         (case aS=>exact (below_size (by repeat (first|(with_reducible first|exact HB.out|apply zl1|apply zl2|apply zl3|refine below_set ?_ GE415.out|refine below_set ?_ GE416.out|refine below_set ?_ GE417.out)|exact HB.out))))
         (case aL=>have:=LMc21.out;omega)
         intro v425 w35 ho hb hg hat
         rw [← Ny424.out] at ho
         replace BK415:=Aside0.mk (blk_grown (g:=gb415) (o:=.cells #[.bool false,.slice A0_1 l0_1.length c0_1,.slice A0_2 l0_2.length c0_2,.slice A0_3 l0_3.length c0_3] 26 (0,0)) (by (with_reducible repeat (first|apply zb1|apply zb2|apply zb3));exact BK415.out) hg (by simp [Value.ownBlock]))
         replace BK416:=Aside0.mk (blk_grown (g:=gb416) (o:=.cells #[.bool a1_0,.slice A1_1 l1_1.length c1_1,.slice A1_2 l1_2.length c1_2,.slice A1_3 l1_3.length c1_3] 26 (0,0)) (by (with_reducible repeat (first|apply zb1|apply zb2|apply zb3));exact BK416.out) hg (by simp [Value.ownBlock]))
         replace BK417:=Aside0.mk (blk_grown (g:=gb417) (o:=.cells #[.bool false,.slice none 0 0,.slice none 0 0,.slice none 0 0] 26 (0,0)) (by (with_reducible repeat (first|apply zb1|apply zb2|apply zb3));exact BK417.out) hg (by simp [Value.ownBlock]))
         replace HO429:=Aside0.mk (Kd.R_after (Kd.R_apart_nil (by (with_reducible repeat (first|apply zk1|apply zk2|apply zk3));exact HO429.out)) hg hat)
         replace HB:=Aside0.mk (hb)
         have HO426:=Aside0.mk (ho)
         clear ho hb hg hat
         refine hK.out _ _ ⟨(blk_cell BK415.out 0).trans rfl,(blk_cell BK415.out 1).trans rfl,(blk_cell BK415.out 2).trans rfl,(blk_cell BK415.out 3).trans rfl,(blk_cell BK416.out 0).trans rfl,(blk_cell BK416.out 1).trans rfl,(blk_cell BK416.out 2).trans rfl,(blk_cell BK416.out 3).trans rfl⟩ (fun hHeld=>?_)
         clear hK K
         refine norm_ (a':=?_) ?_ ?_
         rotate_left
         ·show Act.put _ (some 18) _=_
          simp only [Act.put,List.setIfInBounds_toArray,List.set_cons_zero,List.set_cons_succ,i64_w,i32_w]
          rfl
         exact norm_ (by simp only [putAll,Act.put,List.setIfInBounds_toArray,List.set_cons_zero,List.set_cons_succ]) (hCont (v425,v428) _ ⟨hHeld,(by (with_reducible repeat (first|apply zk1|apply zk2|apply zk3));exact HO426.out),(by (with_reducible repeat (first|apply zk1|apply zk2|apply zk3));exact Kd.R_mono HO429.out (fun _ hk=>hk.2)),(by (with_reducible repeat (first|apply zb1|apply zb2|apply zb3));exact BK415.out),(by (with_reducible repeat (first|apply zb1|apply zb2|apply zb3));exact BK416.out),(by (with_reducible repeat (first|apply zb1|apply zb2|apply zb3));exact BK417.out),(by repeat (first|(with_reducible first|exact HB.out|apply zl1|apply zl2|apply zl3|refine below_set ?_ GE415.out|refine below_set ?_ GE416.out|refine below_set ?_ GE417.out)|exact HB.out))⟩)
       rintro ⟨v425,v428⟩ w36 ⟨hS_,h0_,h1_,h2_,h3_,h4_,h5_⟩
       have n0_:Aside0 (Kd.R Kd.string 9 w36 w.heap.size (fun k_=>some k_ ≠ (v428:Value).ownBlock) v425 y424):=⟨h0_⟩
       have n1_:Aside0 (Kd.R Kd.string 9 w36 w.heap.size (fun k_=>some k_ ≠ (v425:Value).ownBlock) v428 y427):=⟨h1_⟩
       have n2_:Aside0 (w36.heap[gb415]?=some (.cells #[.bool false,.slice A0_1 l0_1.length c0_1,.slice A0_2 l0_2.length c0_2,.slice A0_3 l0_3.length c0_3] 26 (0,0))):=⟨h2_⟩
       have n3_:Aside0 (w36.heap[gb416]?=some (.cells #[.bool a1_0,.slice A1_1 l1_1.length c1_1,.slice A1_2 l1_2.length c1_2,.slice A1_3 l1_3.length c1_3] 26 (0,0))):=⟨h3_⟩
       have n4_:Aside0 (w36.heap[gb417]?=some (.cells #[.bool false,.slice none 0 0,.slice none 0 0,.slice none 0 0] 26 (0,0))):=⟨h4_⟩
       have n5_:Aside0 (Below w.heap.size w w36):=⟨h5_⟩
       clear BK415
       clear BK416
       clear BK417
       clear HB
       clear h0_ h1_ h2_ h3_ h4_ h5_
       have HO426:=n0_
       have HO429:=n1_
       have BK415:=n2_
       have BK416:=n3_
       have BK417:=n4_
       have HB:=n5_
       clear n0_ n1_ n2_ n3_ n4_ n5_
       have hHeld:w36.cell? ⟨gb415,0,none⟩=some (.bool false)∧w36.cell? ⟨gb415,1,none⟩=some (.slice A0_1 l0_1.length c0_1)∧w36.cell? ⟨gb415,2,none⟩=some (.slice A0_2 l0_2.length c0_2)∧w36.cell? ⟨gb415,3,none⟩=some (.slice A0_3 l0_3.length c0_3)∧w36.cell? ⟨gb416,0,none⟩=some (.bool a1_0)∧w36.cell? ⟨gb416,1,none⟩=some (.slice A1_1 l1_1.length c1_1)∧w36.cell? ⟨gb416,2,none⟩=some (.slice A1_2 l1_2.length c1_2)∧w36.cell? ⟨gb416,3,none⟩=some (.slice A1_3 l1_3.length c1_3):=hS_
       obtain ⟨Ao38,co38,eo38⟩:=Kd.R_slice HO429.out
       (first|subst eo38|(injection eo38 with f1_ f2_ f3_;have f4_:=f1_.symm;have f5_:=f3_.symm;clear f1_ f2_ f3_;subst f4_;subst f5_))
       refine norm_ (a':=?_) ?_ ?_
       rotate_left
       ·simp only [putAll,Act.put,List.setIfInBounds_toArray,List.set_cons_zero,List.set_cons_succ]
        rfl
       refine one_ (i:=5) (N:=some 21) #[true,true,true,true,true,true,true,true,false,true,true,false,true,true,false,false,false] rfl rfl (one_of HT_.out (by kernel_rfl)) (by decide) (fun K hK=>?_)
       refine Kd.R_append_rows_step Kd.string (w0:=w) w.heap.size (by rfl) (.tmp 18) (.tmp 20) 23 9 (.string ⟨#[]⟩) 16 rfl Try.underlying23 info9 rfl (by decide) (by omega) v425 y424 y427 _ _ _ (fun k_=>some k_ ≠ (.slice Ao38 y427.length co38:Value).ownBlock) (fun _=>False) rfl rfl ?aO ?aR (fun _ _ h=>h) (fun _ h=>h.elim) ?aF ?aB ?aS ?aL ?_
       (case aR=>repeat (first|exact (Kd.R_reads' HO429.out).2.2|(with_reducible refine Kd.C_alloc ?_ _)|(with_reducible refine Kd.C_drewN ?_ _)|(with_reducible refine Kd.C_drew ?_)))
       (case aB=>exact (by repeat (first|(with_reducible first|exact HB.out|apply zl1|apply zl2|apply zl3|refine below_set ?_ GE415.out|refine below_set ?_ GE416.out|refine below_set ?_ GE417.out)|exact HB.out)))
       (case aF=>exact (fun k_ hk=>Kd.fresh' (Kd.R_lt (by (with_reducible repeat (first|apply zk1|apply zk2|apply zk3));exact HO429.out)) k_ hk))
       (case aO=>exact (by (with_reducible repeat (first|apply zk1|apply zk2|apply zk3));exact HO426.out))
       (case aS=>exact (below_size (by repeat (first|(with_reducible first|exact HB.out|apply zl1|apply zl2|apply zl3|refine below_set ?_ GE415.out|refine below_set ?_ GE416.out|refine below_set ?_ GE417.out)|exact HB.out))))
       (case aL=>have:=LMc22.out;omega)
       intro v431 w37 ho hb hg hat
       rw [← Ny430.out] at ho
       have n0_:=Aside0.mk (blk_grown (g:=gb415) (o:=.cells #[.bool false,.slice A0_1 l0_1.length c0_1,.slice A0_2 l0_2.length c0_2,.slice A0_3 l0_3.length c0_3] 26 (0,0)) (by (with_reducible repeat (first|apply zb1|apply zb2|apply zb3));exact BK415.out) hg (Kd.R_ne HO426.out BK415.out (by decide)))
       have n1_:=Aside0.mk (blk_grown (g:=gb416) (o:=.cells #[.bool a1_0,.slice A1_1 l1_1.length c1_1,.slice A1_2 l1_2.length c1_2,.slice A1_3 l1_3.length c1_3] 26 (0,0)) (by (with_reducible repeat (first|apply zb1|apply zb2|apply zb3));exact BK416.out) hg (Kd.R_ne HO426.out BK416.out (by decide)))
       have n2_:=Aside0.mk (blk_grown (g:=gb417) (o:=.cells #[.bool false,.slice none 0 0,.slice none 0 0,.slice none 0 0] 26 (0,0)) (by (with_reducible repeat (first|apply zb1|apply zb2|apply zb3));exact BK417.out) hg (Kd.R_ne HO426.out BK417.out (by decide)))
       have n3_:=Aside0.mk (Kd.R_after (ok:=(fun _=>True)) (by (with_reducible repeat (first|apply zk1|apply zk2|apply zk3));exact Kd.R_mono HO429.out (fun _ hk=>⟨trivial,hk⟩)) hg hat)
       have n4_:=Aside0.mk (hb)
       have n5_:=Aside0.mk (ho)
       clear BK415
       clear BK416
       clear BK417
       clear HO429
       clear HB
       clear HO426
       have BK415:=n0_
       have BK416:=n1_
       have BK417:=n2_
       have HO429:=n3_
       have HB:=n4_
       have HO432:=n5_
       clear n0_ n1_ n2_ n3_ n4_ n5_
       clear ho hb hg hat
       refine hK.out _ _ ⟨(blk_cell BK415.out 0).trans rfl,(blk_cell BK415.out 1).trans rfl,(blk_cell BK415.out 2).trans rfl,(blk_cell BK415.out 3).trans rfl,(blk_cell BK416.out 0).trans rfl,(blk_cell BK416.out 1).trans rfl,(blk_cell BK416.out 2).trans rfl,(blk_cell BK416.out 3).trans rfl⟩ (fun hHeld=>?_)
       clear hK K
       refine norm_ (a':=?_) ?_ ?_
       rotate_left
       ·show Act.put _ (some 21) _=_
        simp only [Act.put,List.setIfInBounds_toArray,List.set_cons_zero,List.set_cons_succ,i64_w,i32_w]
        rfl
       refine one_ (i:=8) (N:=some 24) #[true,true,true,true,true,true,true,true,true,true,true,false,true,true,false,false,false] rfl rfl (one_of HT_.out (by kernel_rfl)) (by decide) (fun K hK=>?_)
       refine Kd.R_append_rows_step Kd.string (w0:=w) w.heap.size (by rfl) (.tmp 21) (.tmp 23) 23 9 (.string ⟨#[]⟩) 16 rfl Try.underlying23 info9 rfl (by decide) (by omega) v431 y430 l1_2 _ _ _ (fun k_=>some k_ ≠ (.slice Ao38 y427.length co38:Value).ownBlock) (fun _=>False) rfl rfl ?aO ?aR (fun _ _ h=>h) (fun _ h=>h.elim) ?aF ?aB ?aS ?aL ?_
       (case aR=>repeat (first|exact (Kd.C_below HR1_2.out HB.out)|(with_reducible refine Kd.C_alloc ?_ _)|(with_reducible refine Kd.C_drewN ?_ _)|(with_reducible refine Kd.C_drew ?_)))
       (case aB=>exact (by repeat (first|(with_reducible first|exact HB.out|apply zl1|apply zl2|apply zl3|refine below_set ?_ GE415.out|refine below_set ?_ GE416.out|refine below_set ?_ GE417.out)|exact HB.out)))
       (case aF=>exact (fun k_ hk=>Kd.fresh' (Kd.R_lt (by (with_reducible repeat (first|apply zk1|apply zk2|apply zk3));exact HO429.out)) k_ hk))
       (case aO=>exact (by (with_reducible repeat (first|apply zk1|apply zk2|apply zk3));exact HO432.out))
       (case aS=>exact (below_size (by repeat (first|(with_reducible first|exact HB.out|apply zl1|apply zl2|apply zl3|refine below_set ?_ GE415.out|refine below_set ?_ GE416.out|refine below_set ?_ GE417.out)|exact HB.out))))
       (case aL=>have:=LMc23.out;omega)
       intro v434 w39 ho hb hg hat
       rw [← Ny433.out] at ho
       have n0_:=Aside0.mk (blk_grown (g:=gb415) (o:=.cells #[.bool false,.slice A0_1 l0_1.length c0_1,.slice A0_2 l0_2.length c0_2,.slice A0_3 l0_3.length c0_3] 26 (0,0)) (by (with_reducible repeat (first|apply zb1|apply zb2|apply zb3));exact BK415.out) hg (Kd.R_ne HO432.out BK415.out (by decide)))
       have n1_:=Aside0.mk (blk_grown (g:=gb416) (o:=.cells #[.bool a1_0,.slice A1_1 l1_1.length c1_1,.slice A1_2 l1_2.length c1_2,.slice A1_3 l1_3.length c1_3] 26 (0,0)) (by (with_reducible repeat (first|apply zb1|apply zb2|apply zb3));exact BK416.out) hg (Kd.R_ne HO432.out BK416.out (by decide)))
       have n2_:=Aside0.mk (blk_grown (g:=gb417) (o:=.cells #[.bool false,.slice none 0 0,.slice none 0 0,.slice none 0 0] 26 (0,0)) (by (with_reducible repeat (first|apply zb1|apply zb2|apply zb3));exact BK417.out) hg (Kd.R_ne HO432.out BK417.out (by decide)))
       have n3_:=Aside0.mk (Kd.R_after (ok:=(fun _=>True)) (by (with_reducible repeat (first|apply zk1|apply zk2|apply zk3));exact HO429.out) hg hat)
       have n4_:=Aside0.mk (hb)
       have n5_:=Aside0.mk (ho)
       clear BK415
       clear BK416
       clear BK417
       clear HO429
       clear HB
       clear HO432
       have BK415:=n0_
       have BK416:=n1_
       have BK417:=n2_
       have HO429:=n3_
       have HB:=n4_
       have HO435:=n5_
       clear n0_ n1_ n2_ n3_ n4_ n5_
       clear ho hb hg hat
       refine hK.out _ _ ⟨(blk_cell BK415.out 0).trans rfl,(blk_cell BK415.out 1).trans rfl,(blk_cell BK415.out 2).trans rfl,(blk_cell BK415.out 3).trans rfl,(blk_cell BK416.out 0).trans rfl,(blk_cell BK416.out 1).trans rfl,(blk_cell BK416.out 2).trans rfl,(blk_cell BK416.out 3).trans rfl⟩ (fun hHeld=>?_)
       clear hK K
       refine norm_ (a':=?_) ?_ ?_
       rotate_left
       ·show Act.put _ (some 24) _=_
        simp only [Act.put,List.setIfInBounds_toArray,List.set_cons_zero,List.set_cons_succ,i64_w,i32_w]
        rfl
       refine one_ (i:=11) (N:=some 27) #[true,true,true,true,true,true,true,true,true,true,true,true,true,true,false,false,false] rfl rfl (one_of HT_.out (by kernel_rfl)) (by decide) (fun K hK=>?_)
       refine Kd.R_append_rows_step (Kd.int .i64) (w0:=w) w.heap.size (by rfl) (.const (.slice none 0 0)) (.tmp 26) 24 3 (.int .i64 0) 8 rfl Try.underlying24 info3 rfl (by decide) (by omega) (.slice none 0 0) ([]:List Int) l0_3 _ _ _ (fun _=>True) (fun _=>False) rfl rfl ?aO ?aR (fun _ _ h=>h) (fun _ h=>h.elim) ?aF ?aB ?aS ?aL ?_
       (case aR=>repeat (first|exact (Kd.C_below HR0_3.out HB.out)|(with_reducible refine Kd.C_alloc ?_ _)|(with_reducible refine Kd.C_drewN ?_ _)|(with_reducible refine Kd.C_drew ?_)))
       (case aB=>exact (by repeat (first|(with_reducible first|exact HB.out|apply zl1|apply zl2|apply zl3|refine below_set ?_ GE415.out|refine below_set ?_ GE416.out|refine below_set ?_ GE417.out)|exact HB.out)))
       (case aF=>exact (fun _ _=>trivial))
       (case aO=>exact ((Kd.R_nil _ _ _ _ (fun _=>True))))
       (case aS=>exact (below_size (by repeat (first|(with_reducible first|exact HB.out|apply zl1|apply zl2|apply zl3|refine below_set ?_ GE415.out|refine below_set ?_ GE416.out|refine below_set ?_ GE417.out)|exact HB.out))))
       (case aL=>have:=LMc24.out;omega)
       intro v437 w40 ho hb hg hat
       rw [← Ny436.out] at ho
       replace BK415:=Aside0.mk (blk_grown (g:=gb415) (o:=.cells #[.bool false,.slice A0_1 l0_1.length c0_1,.slice A0_2 l0_2.length c0_2,.slice A0_3 l0_3.length c0_3] 26 (0,0)) (by (with_reducible repeat (first|apply zb1|apply zb2|apply zb3));exact BK415.out) hg (by simp [Value.ownBlock]))
       replace BK416:=Aside0.mk (blk_grown (g:=gb416) (o:=.cells #[.bool a1_0,.slice A1_1 l1_1.length c1_1,.slice A1_2 l1_2.length c1_2,.slice A1_3 l1_3.length c1_3] 26 (0,0)) (by (with_reducible repeat (first|apply zb1|apply zb2|apply zb3));exact BK416.out) hg (by simp [Value.ownBlock]))
       replace BK417:=Aside0.mk (blk_grown (g:=gb417) (o:=.cells #[.bool false,.slice none 0 0,.slice none 0 0,.slice none 0 0] 26 (0,0)) (by (with_reducible repeat (first|apply zb1|apply zb2|apply zb3));exact BK417.out) hg (by simp [Value.ownBlock]))
       replace HO429:=Aside0.mk (Kd.R_grown (by (with_reducible repeat (first|apply zk1|apply zk2|apply zk3));exact HO429.out) hg (fun _ _=>by simp [Value.ownBlock]))
       replace HO435:=Aside0.mk (Kd.R_grown (by (with_reducible repeat (first|apply zk1|apply zk2|apply zk3));exact HO435.out) hg (fun _ _=>by simp [Value.ownBlock]))
       replace HB:=Aside0.mk (hb)
       have HO438:=Aside0.mk (ho)
       clear ho hb hg hat
       refine hK.out _ _ ⟨(blk_cell BK415.out 0).trans rfl,(blk_cell BK415.out 1).trans rfl,(blk_cell BK415.out 2).trans rfl,(blk_cell BK415.out 3).trans rfl,(blk_cell BK416.out 0).trans rfl,(blk_cell BK416.out 1).trans rfl,(blk_cell BK416.out 2).trans rfl,(blk_cell BK416.out 3).trans rfl⟩ (fun hHeld=>?_)
       clear hK K
       refine norm_ (a':=?_) ?_ ?_
       rotate_left
       ·show Act.put _ (some 27) _=_
        simp only [Act.put,List.setIfInBounds_toArray,List.set_cons_zero,List.set_cons_succ,i64_w,i32_w]
        rfl
       refine one_ (i:=14) (N:=some 30) #[true,true,true,true,true,true,true,true,true,true,true,true,true,true,true,false,false] rfl rfl (one_of HT_.out (by kernel_rfl)) (by decide) (fun K hK=>?_)
       refine Kd.R_append_rows_step (Kd.int .i64) (w0:=w) w.heap.size (by rfl) (.tmp 27) (.tmp 29) 24 3 (.int .i64 0) 8 rfl Try.underlying24 info3 rfl (by decide) (by omega) v437 y436 l1_3 _ _ _ (fun _=>True) (fun _=>False) rfl rfl ?aO ?aR (fun _ _ h=>h) (fun _ h=>h.elim) ?aF ?aB ?aS ?aL ?_
       (case aR=>repeat (first|exact (Kd.C_below HR1_3.out HB.out)|(with_reducible refine Kd.C_alloc ?_ _)|(with_reducible refine Kd.C_drewN ?_ _)|(with_reducible refine Kd.C_drew ?_)))
       (case aB=>exact (by repeat (first|(with_reducible first|exact HB.out|apply zl1|apply zl2|apply zl3|refine below_set ?_ GE415.out|refine below_set ?_ GE416.out|refine below_set ?_ GE417.out)|exact HB.out)))
       (case aF=>exact (fun _ _=>trivial))
       (case aO=>exact (by (with_reducible repeat (first|apply zk1|apply zk2|apply zk3));exact HO438.out))
       (case aS=>exact (below_size (by repeat (first|(with_reducible first|exact HB.out|apply zl1|apply zl2|apply zl3|refine below_set ?_ GE415.out|refine below_set ?_ GE416.out|refine below_set ?_ GE417.out)|exact HB.out))))
       (case aL=>have:=LMc25.out;omega)
       intro v440 w41 ho hb hg hat
       rw [← Ny439.out] at ho
       have n0_:=Aside0.mk (blk_grown (g:=gb415) (o:=.cells #[.bool false,.slice A0_1 l0_1.length c0_1,.slice A0_2 l0_2.length c0_2,.slice A0_3 l0_3.length c0_3] 26 (0,0)) (by (with_reducible repeat (first|apply zb1|apply zb2|apply zb3));exact BK415.out) hg (Kd.R_ne HO438.out BK415.out (by decide)))
       have n1_:=Aside0.mk (blk_grown (g:=gb416) (o:=.cells #[.bool a1_0,.slice A1_1 l1_1.length c1_1,.slice A1_2 l1_2.length c1_2,.slice A1_3 l1_3.length c1_3] 26 (0,0)) (by (with_reducible repeat (first|apply zb1|apply zb2|apply zb3));exact BK416.out) hg (Kd.R_ne HO438.out BK416.out (by decide)))
       have n2_:=Aside0.mk (blk_grown (g:=gb417) (o:=.cells #[.bool false,.slice none 0 0,.slice none 0 0,.slice none 0 0] 26 (0,0)) (by (with_reducible repeat (first|apply zb1|apply zb2|apply zb3));exact BK417.out) hg (Kd.R_ne HO438.out BK417.out (by decide)))
       have n3_:=Aside0.mk (Kd.R_over' (by (with_reducible repeat (first|apply zk1|apply zk2|apply zk3));exact HO429.out) (Kd.R_typed (by (with_reducible repeat (first|apply zk1|apply zk2|apply zk3));exact HO438.out)) (by decide) hg)
       have n4_:=Aside0.mk (Kd.R_over' (by (with_reducible repeat (first|apply zk1|apply zk2|apply zk3));exact HO435.out) (Kd.R_typed (by (with_reducible repeat (first|apply zk1|apply zk2|apply zk3));exact HO438.out)) (by decide) hg)
       have n5_:=Aside0.mk (hb)
       have n6_:=Aside0.mk (ho)
       clear BK415
       clear BK416
       clear BK417
       clear HO429
       clear HO435
       clear HB
       clear HO438
       have BK415:=n0_
       have BK416:=n1_
       have BK417:=n2_
       have HO429:=n3_
       have HO435:=n4_
       have HB:=n5_
       have HO441:=n6_
       clear n0_ n1_ n2_ n3_ n4_ n5_ n6_
       clear ho hb hg hat
       obtain ⟨Ao42,co42,eo42⟩:=Kd.R_slice HO441.out
       (first|subst eo42|(injection eo42 with f1_ f2_ f3_;have f4_:=f1_.symm;have f5_:=f3_.symm;clear f1_ f2_ f3_;subst f4_;subst f5_))
       obtain ⟨Ao43,co43,eo43⟩:=Kd.R_slice HO435.out
       (first|subst eo43|(injection eo43 with f1_ f2_ f3_;have f4_:=f1_.symm;have f5_:=f3_.symm;clear f1_ f2_ f3_;subst f4_;subst f5_))
       refine hK.out _ _ ⟨(blk_cell BK415.out 0).trans rfl,(blk_cell BK415.out 1).trans rfl,(blk_cell BK415.out 2).trans rfl,(blk_cell BK415.out 3).trans rfl,(blk_cell BK416.out 0).trans rfl,(blk_cell BK416.out 1).trans rfl,(blk_cell BK416.out 2).trans rfl,(blk_cell BK416.out 3).trans rfl⟩ (fun hHeld=>?_)
       clear hK K
       refine norm_ (a':=?_) ?_ ?_
       rotate_left
       ·show Act.put _ (some 30) _=_
        simp only [Act.put,List.setIfInBounds_toArray,List.set_cons_zero,List.set_cons_succ,i64_w,i32_w]
        rfl
       refine pure_ (i:=15) (N:=some 31) (v:=?_) (a':=?_) #[true,true,true,true,true,true,true,true,true,true,true,true,true,true,true,true,false] rfl rfl (any_of HT_.out (by kernel_rfl)) (fun _ _ _ h=>h) (Or.inl ⟨by rfl,?_⟩) ?_ ?_
       rotate_left
       ·intro w'
        go_simp
        with_reducible rfl
       rotate_left
       ·simp only [Act.put,List.setIfInBounds_toArray,List.set_cons_zero,List.set_cons_succ,i64_w,i32_w]
        rfl
       refine one_ (i:=16) (N:=none) #[true,true,true,true,true,true,true,true,true,true,true,true,true,true,true,true,true] rfl rfl (one_of HT_.out (by kernel_rfl)) (by decide) (fun K hK=>?_)
       have hs44:w41.cell? ⟨gb417,0,none⟩=some (.bool false):=(blk_cell BK417.out 0).trans rfl
       have hfs44:=blk_frozen BK417.out 0
       have hns44_0:=NB415_417.out
       have hns44_1:=NB416_417.out
       have hms44_0:=NB417_415.out
       have hms44_1:=NB417_416.out
       have hs45:w41.cell? ⟨gb417,1,none⟩=some (.slice none 0 0):=(blk_cell BK417.out 1).trans rfl
       have hfs45:=blk_frozen BK417.out 1
       have hns45_0:=NB415_417.out
       have hns45_1:=NB416_417.out
       have hms45_0:=NB417_415.out
       have hms45_1:=NB417_416.out
       have hs46:w41.cell? ⟨gb417,2,none⟩=some (.slice none 0 0):=(blk_cell BK417.out 2).trans rfl
       have hfs46:=blk_frozen BK417.out 2
       have hns46_0:=NB415_417.out
       have hns46_1:=NB416_417.out
       have hms46_0:=NB417_415.out
       have hms46_1:=NB417_416.out
       have hs47:w41.cell? ⟨gb417,3,none⟩=some (.slice none 0 0):=(blk_cell BK417.out 3).trans rfl
       have hfs47:=blk_frozen BK417.out 3
       have hns47_0:=NB415_417.out
       have hns47_1:=NB416_417.out
       have hms47_0:=NB417_415.out
       have hms47_1:=NB417_416.out
       refine skip_ (w1:=?_) (by rfl) rfl ?_ ?_
       rotate_left
       ·go_simp
        rfl
       refine hK.out _ _ ⟨((far4 (g:=gb417) NB415_417.out).trans (hHeld.1)),((far4 (g:=gb417) NB415_417.out).trans (hHeld.2.1)),((far4 (g:=gb417) NB415_417.out).trans (hHeld.2.2.1)),((far4 (g:=gb417) NB415_417.out).trans (hHeld.2.2.2.1)),((far4 (g:=gb417) NB416_417.out).trans (hHeld.2.2.2.2.1)),((far4 (g:=gb417) NB416_417.out).trans (hHeld.2.2.2.2.2.1)),((far4 (g:=gb417) NB416_417.out).trans (hHeld.2.2.2.2.2.2.1)),((far4 (g:=gb417) NB416_417.out).trans (hHeld.2.2.2.2.2.2.2))⟩ (fun hHeld=>?_)
       clear hK K
       refine done_ (done_of HT_.out (by kernel_rfl)) ?_
       try go_wp2
       refine bodyPost_ret (results_cell_row rfl _ _ gb417 26 #[.bool false,.slice none 0 0,.slice Ao43 y433.length co43,.slice Ao42 y439.length co42] (0,0) _ rfl (by apply zpe;(repeat (first|(with_reducible first|apply zb1|apply zb2|apply zb3|apply zpi|exact BK417.out)));rfl) Try.underlying26 rfl (by kernel_rfl)) rfl ?_
       exact ⟨_,_,_,by first|(with_reducible rfl)|(simp only [isEmpty_bne,Bool.not_not] <;> rfl)|rfl|(simp [*,errW_none,errW_some] <;> rfl),by first|exact Kd.R_nil _ _ _ _ _|exact Kd.N_nil _ _ _ _ _|exact Kd.V_nil _ _ _ _ _|exact Kd.Q_nil _ _ _ _ _|exact Kd.S_nil _ _ _ _ _,by (with_reducible repeat (first|apply zk1|apply zk2|apply zk3));exact Kd.R_mono (Kd.R_far (p:=⟨gb417,3,none⟩) (Kd.R_far (p:=⟨gb417,2,none⟩) (Kd.R_far (p:=⟨gb417,1,none⟩) (Kd.R_far (p:=⟨gb417,0,none⟩) (Kd.R_types HO435.out BK417.out (by decide)) (fun _ hk=>hk.2) (.bool false)) (fun _ hk=>hk.2) (.slice none 0 0)) (fun _ hk=>hk.2) (.slice Ao43 y433.length co43)) (fun _ hk=>hk.2) (.slice Ao42 y439.length co42)) (fun _ hk=>trivial),by (with_reducible repeat (first|apply zk1|apply zk2|apply zk3));exact Kd.R_mono (Kd.R_far (p:=⟨gb417,3,none⟩) (Kd.R_far (p:=⟨gb417,2,none⟩) (Kd.R_far (p:=⟨gb417,1,none⟩) (Kd.R_far (p:=⟨gb417,0,none⟩) (Kd.R_types HO441.out BK417.out (by decide)) (fun _ hk=>hk.2) (.bool false)) (fun _ hk=>hk.2) (.slice none 0 0)) (fun _ hk=>hk.2) (.slice Ao43 y433.length co43)) (fun _ hk=>hk.2) (.slice Ao42 y439.length co42)) (fun _ hk=>trivial),by repeat (first|(with_reducible first|exact HB.out|apply zl1|apply zl2|apply zl3|refine below_set ?_ GE415.out|refine below_set ?_ GE416.out|refine below_set ?_ GE417.out)|exact HB.out)⟩
      ·rw [if_neg c25] at H
       exact absurd H (by simp)
     ·rw [if_neg c24] at H
      exact absurd H (by simp)
    ·rw [if_neg c23] at H
     exact absurd H (by simp)
   ·rw [if_neg c22] at H
    exact absurd H (by simp)
  ·rw [if_neg c21] at H
   exact absurd H (by simp)

end Go.Proofs.Ytokjbncjapndgaa.PAll
