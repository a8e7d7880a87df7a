/- Printed walks of the functions that the laws reach: each function, what it computes, and that it does. No conditions. -/
import Derived.Test.YtljfichnlgfikaaDoorPAllx0
import Derived.Test.YtljfichnlgfikaaDoorPAllx18
namespace Go.Proofs.YtljfichnlgfikaaDoor.PAll
open Go.RowKit Go.Proofs.YtljfichnlgfikaaDoor.XW Go.Proofs.YtljfichnlgfikaaDoor.XLib Go.Proofs.YtljfichnlgfikaaDoorW.PrintWords Go.Proofs.YtljfichnlgfikaaDoorW.PrintLast Go.Proofs.YtljfichnlgfikaaDoorW.PrintMore
attribute [local go_sem] max2_int min2_int max_two min_two max_three min_three max_four min_four   -- for this text's walks alone
set_option linter.unusedVariables false
set_option linter.unusedSimpArgs false

/-! ### factotumref01_Str: function 36 -/
def factotumref01_Str.f (k:Nat) (a0:ByteArray):Option (ByteArray):=(factotumref01_Num.f k (mn (a0.size:Int) 255) 1).bind fun t206=>(if 0≤(mn (a0.size:Int) 255) then (if (mn (a0.size:Int) 255)≤(a0.size:Int) then (if t206.size + (a0.extract 0 ((mn (a0.size:Int) 255):Int).toNat).size≤9223372036854775807 then (some (t206 ++ (a0.extract 0 ((mn (a0.size:Int) 255):Int).toNat))) else (none)) else (none)) else (none))
theorem factotumref01_Str.mono:∀ a0 k,LeO (factotumref01_Str.f k a0) (factotumref01_Str.f (k + 1) a0):=by
 intro a0 k
 unfold factotumref01_Str.f
 repeat' first
   | (with_reducible exact factotumref01_Num.mono _ _ _)
   | (with_reducible exact LeO.refl _)
   | (with_reducible exact LeO.none _)
   | (with_reducible refine LeO.ite ?_ ?_)
   | (with_reducible refine LeO.bind ?_ (fun _=>?_))
   | exact factotumref01_Num.mono _ _ _
   | exact LeO.none _
   | refine LeO.ite ?_ ?_
   | refine LeO.bind ?_ (fun _=>?_)
def factotumref01_Str.T2:Bool × List (List Nat × List Nat):=(true,[([],[]),([0],[0]),([1],[1]),([],[]),([],[]),([3,4],[3,4]),([2,5],[2,5]),([6,2,0,1,2,3,4,5,6],[6])])
def factotumref01_Str.B2:List Nat:=[0,1,3,0,0,24,63,127]
theorem factotumref01_Str.tab2:rtab .any (opsOf Tryd.f36 2)=factotumref01_Str.T2:=by kernel_rfl
theorem factotumref01_Str.bits2:waitsOk factotumref01_Str.T2.2 factotumref01_Str.B2=true:=by kernel_rfl
set_option maxHeartbeats 8000000 in
set_option maxRecDepth 100000 in
theorem factotumref01_Str.calls (k:Nat) (a0:ByteArray) (r:ByteArray) (w:World) (h:factotumref01_Str.f k a0=some r) :
  Calls Tryd.prog 36 #[.string a0] w fun e w'=>e=.returned (.string r)∧Below w.heap.size w w':=by
 have HB:=Aside0.mk (Below.refl w.heap.size w)
 have H:((factotumref01_Num.f k (mn (a0.size:Int) 255) 1).bind fun t206=>(if 0≤(mn (a0.size:Int) 255) then (if (mn (a0.size:Int) 255)≤(a0.size:Int) then (if t206.size + (a0.extract 0 ((mn (a0.size:Int) 255):Int).toNat).size≤9223372036854775807 then (some (t206 ++ (a0.extract 0 ((mn (a0.size:Int) 255):Int).toNat))) else (none)) else (none)) else (none)))=some r:=h
 clear h
 obtain ⟨ji2,hji2⟩:∃ j_:Int,(mn (a0.size:Int) 255)=j_:=⟨_,rfl⟩
 replace H:((factotumref01_Num.f k (ji2) 1).bind fun t206=>(if 0≤(ji2) then (if (ji2)≤(a0.size:Int) then (if t206.size + (a0.extract 0 ((ji2):Int).toNat).size≤9223372036854775807 then (some (t206 ++ (a0.extract 0 ((ji2):Int).toNat))) else (none)) else (none)) else (none)))=some r:=by first|(rw [hji2] at H;exact H)|(simp only [hji2] at H ⊢;exact H)
 (try (have hji2h:ji2≤255:=by (rw [← hji2];unfold mn;(repeat' split) <;> omega)))
 (try (have hji2g:ji2≤64:=by omega))
 (try (have hji2l:0≤ji2:=by (rw [← hji2];unfold mn;(repeat' split) <;> omega)))
 (try (have hji2m:0≤ji2:=by omega))
 have hji2_:(if 255 < (a0.size:Int) then 255 else (a0.size:Int))=ji2:=hji2
 replace H:=Option.bind_eq_some_iff.mp H
 obtain ⟨t206,A30,H⟩:=H
 replace H:(if 0≤(ji2) then (if (ji2)≤(a0.size:Int) then (if t206.size + (a0.extract 0 ((ji2):Int).toNat).size≤9223372036854775807 then (some (t206 ++ (a0.extract 0 ((ji2):Int).toNat))) else (none)) else (none)) else (none))=some r:=H
 have A3:=Aside0.mk A30
 clear A30
 by_cases c4:0≤(ji2)
 ·rw [if_pos c4] at H
  have c4b0:=eq_true c4
  have c4b1:decide (0≤(ji2))=true:=decide_eq_true c4
  clear c4
  by_cases c5:(ji2)≤(a0.size:Int)
  ·rw [if_pos c5] at H
   have c5b0:=eq_true c5
   have c5b1:decide ((ji2)≤(a0.size:Int))=true:=decide_eq_true c5
   clear c5
   by_cases c6:t206.size + (a0.extract 0 ((ji2):Int).toNat).size≤9223372036854775807
   ·rw [if_pos c6] at H
    have c6b0:=eq_true c6
    have c6b1:decide (t206.size + (a0.extract 0 ((ji2):Int).toNat).size≤9223372036854775807)=true:=decide_eq_true c6
    (try (have c6x:=c6;simp at c6x))
    try have c6b2:(9223372036854775807 < t206.size + (a0.extract 0 ((ji2):Int).toNat).size)=False:=eq_false (Nat.not_lt.2 c6)
    (try have c6b4:(9223372036854775807 < t206.size + (ji2).toNat)=False:=eq_false (by have h_:=c6;rw [ByteArray.size_extract] at h_;(try simp only [eq_iff_iff,iff_true,decide_eq_true_eq] at *);omega))
    obtain rfl:=Option.some.inj H
    go_enter Tryd.func36,Tryd.ntmps36
    try go_wp2
    replace HB:=Aside0.mk (below_drew1 HB.out)
    refine start_ (n:=8) (S:=fun w'=>True) (ds:=[]) #[false,false,false,false,false,false,false,false] (by kernel_rfl) rfl rfl trivial (fun hHeld=>?_);refine with_tabW factotumref01_Str.tab2 factotumref01_Str.bits2 (fun HT_ HW_=>?_)
    generalize w.drew=w7 at HB hHeld ⊢
    refine pure_ (i:=0) (N:=some 7) (v:=?_) (a':=?_) #[true,false,false,false,false,false,false,false] rfl rfl (any_of HT_.out (by kernel_rfl)) (fun _ _ _ h=>h) (Or.inl ⟨by rfl,?_⟩) ?_ ?_
    rotate_left
    ·intro w'
     go_simp
     with_reducible rfl
    rotate_left
    ·simp only [Act.put,List.setIfInBounds_toArray,List.set_cons_zero,List.set_cons_succ,i64_w,i32_w]
     rfl
    refine pure_ (i:=1) (N:=some 8) (v:=?_) (a':=?_) #[true,true,false,false,false,false,false,false] rfl rfl (any_of HT_.out (by kernel_rfl)) (fun _ _ _ h=>h) (Or.inl ⟨by rfl,?_⟩) ?_ ?_
    rotate_left
    ·intro w'
     go_simp
     with_reducible rfl
    rotate_left
    ·simp only [Act.put,List.setIfInBounds_toArray,List.set_cons_zero,List.set_cons_succ,i64_w,i32_w]
     rfl
    refine pure_ (i:=3) (N:=some 10) (v:=?_) (a':=?_) #[true,true,false,true,false,false,false,false] rfl rfl (any_of HT_.out (by kernel_rfl)) (fun _ _ _ h=>h) (Or.inl ⟨by rfl,?_⟩) ?_ ?_
    rotate_left
    ·intro w'
     go_simp
     with_reducible rfl
    rotate_left
    ·simp only [Act.put,List.setIfInBounds_toArray,List.set_cons_zero,List.set_cons_succ,i64_w,i32_w]
     rfl
    refine pure_ (i:=4) (N:=some 11) (v:=?_) (a':=?_) #[true,true,false,true,true,false,false,false] rfl rfl (any_of HT_.out (by kernel_rfl)) (fun _ _ _ h=>h) (Or.inl ⟨by rfl,?_⟩) ?_ ?_
    rotate_left
    ·intro w'
     go_simp
     with_reducible rfl
    rotate_left
    ·simp only [Act.put,List.setIfInBounds_toArray,List.set_cons_zero,List.set_cons_succ,i64_w,i32_w]
     rfl
    refine pure_ (i:=5) (N:=some 12) (v:=?_) (a':=?_) #[true,true,false,true,true,true,false,false] rfl rfl (any_of HT_.out (by kernel_rfl)) (fun _ _ _ h=>h) (Or.inl ⟨by rfl,?_⟩) ?_ ?_
    rotate_left
    ·intro w'
     go_simp
     with_reducible rfl
    rotate_left
    ·simp only [Act.put,List.setIfInBounds_toArray,List.set_cons_zero,List.set_cons_succ,i64_w,i32_w]
     rfl
    refine one_ (i:=2) (N:=some 9) #[true,true,true,true,true,true,false,false] rfl rfl (one_of HT_.out (by kernel_rfl)) (by decide) (fun K hK=>?_)
    refine goes_ Tryd.func35 (by kernel_rfl) rfl #[.int .u64 ji2,.int .i64 1] (by rfl) rfl rfl (by (try simp only [List.map_toArray,List.map_cons,List.map_nil]);first|done|(simp only [hji2];rfl)|rfl|(simp only [List.length_drop,List.length_take];rfl)|(simp (disch:=omega) only [u64_in];rfl)) ?_
    with_reducible refine (factotumref01_Num.calls k ji2 1 t206 _ A3.out).mono ?_
    rintro e w8 ⟨rfl,hb⟩
    refine ⟨_,rfl,?_⟩
    replace HB:=Aside0.mk (below_step (by repeat (first|(with_reducible first|exact HB.out|apply zl1|apply zl2|apply zl3)|exact HB.out)) hb)
    (try clear hb)
    (try clear hb2)
    (try clear hk)
    (try clear hi)
    refine hK.out _ _ trivial (fun hHeld=>?_)
    clear hK K
    refine norm_ (a':=?_) ?_ ?_
    rotate_left
    ·show Act.put _ (some 9) _=_
     simp only [Act.put,List.setIfInBounds_toArray,List.set_cons_zero,List.set_cons_succ,i64_w,i32_w]
     rfl
    refine pure_ (i:=6) (N:=some 13) (v:=?_) (a':=?_) #[true,true,true,true,true,true,true,false] rfl rfl (any_of HT_.out (by kernel_rfl)) (fun _ _ _ h=>h) (Or.inl ⟨by rfl,?_⟩) ?_ ?_
    rotate_left
    ·intro w'
     go_simp
     with_reducible rfl
    rotate_left
    ·simp only [Act.put,List.setIfInBounds_toArray,List.set_cons_zero,List.set_cons_succ,i64_w,i32_w]
     rfl
    refine pure_ (i:=7) (N:=some 2) (v:=?_) (a':=?_) #[true,true,true,true,true,true,true,true] rfl rfl (any_of HT_.out (by kernel_rfl)) (fun _ _ _ h=>h) (Or.inl ⟨by rfl,?_⟩) ?_ ?_
    rotate_left
    ·intro w'
     go_simp
     with_reducible rfl
    rotate_left
    ·simp only [Act.put,List.setIfInBounds_toArray,List.set_cons_zero,List.set_cons_succ,i64_w,i32_w]
     rfl
    refine done_ (done_of HT_.out (by kernel_rfl)) ?_
    try go_wp2
    go_ret
    exact ⟨by first|(with_reducible rfl)|(simp only [isEmpty_bne,Bool.not_not] <;> with_reducible rfl)|(simp [errW_none,errW_some] <;> with_reducible rfl)|(simp only [isEmpty_bne,Bool.not_not] <;> rfl)|rfl|(simp [errW_none,errW_some] <;> rfl)|(simp only [← hji2];first|rfl|(simp [errW_none,errW_some] <;> rfl))|(simp [*,errW_none,errW_some] <;> rfl),by repeat (first|(with_reducible first|exact HB.out|apply zl1|apply zl2|apply zl3)|exact HB.out)⟩
   ·rw [if_neg c6] at H
    exact absurd H (by simp)
  ·rw [if_neg c5] at H
   exact absurd H (by simp)
 ·rw [if_neg c4] at H
  exact absurd H (by simp)

end Go.Proofs.YtljfichnlgfikaaDoor.PAll
