/- Printed walks of the functions that the laws reach: each function, what it computes, and that it does. No conditions. -/
import Derived.Test.YtljfichnlgfikaaDoorPAllx0
namespace Go.Proofs.YtljfichnlgfikaaDoor.PAll
open Go.RowKit Go.Proofs.YtljfichnlgfikaaDoor.XW Go.Proofs.YtljfichnlgfikaaDoor.XLib Go.Proofs.YtljfichnlgfikaaDoorW.PrintWords Go.Proofs.YtljfichnlgfikaaDoorW.PrintLast Go.Proofs.YtljfichnlgfikaaDoorW.PrintMore
attribute [local go_sem] max2_int min2_int max_two min_two max_three min_three max_four min_four   -- for this text's walks alone
set_option linter.unusedVariables false
set_option linter.unusedSimpArgs false

/-- A state of type 57 at block g of W; what its slices lead to came in by w0. -/
def IsS57 (w0 W:World) (g:Nat) (f0:ByteArray) (f1:Int) (f2:Int):Prop:=W.heap[g]?=some (.cells #[.string f0,.int .i64 f1,.int .i64 f2] 57 (0,0))∧w0.heap.size≤g
theorem IsS57.grown {w0 W:World} {g:Nat} {f0:ByteArray} {f1:Int} {f2:Int} {W1:World} {row:Option Nat} (h:IsS57 w0 W g f0 f1 f2) (hw:W.grownBy W1 row) (hne:some g ≠ row):IsS57 w0 W1 g f0 f1 f2:=by
 obtain ⟨hb,hg⟩:=h
 exact ⟨blk_grown hb hw hne,hg⟩
theorem IsS57.own_neN {w0 W:World} {g:Nat} {f0:ByteArray} {f1:Int} {f2:Int} {α:Type} {d:Kd α} {e:Nat} {base:Nat} {ok:Nat→Prop} {v:Value} {xs:List α} (h:IsS57 w0 W g f0 f1 f2) (ho:Kd.N d e W base ok v xs) (ht:e ≠ 57):some g ≠ v.ownBlock:=by
 obtain ⟨hb,hg⟩:=h
 exact Kd.N_ne ho hb ht
theorem IsS57.fresh {w0 W:World} {g:Nat} {f0:ByteArray} {f1:Int} {f2:Int} (h:IsS57 w0 W g f0 f1 f2):∀ k,W.heap.size≤k→k ≠ g:=by
 obtain ⟨hb,hg⟩:=h
 exact Kd.freshB hb
theorem IsS57.kept {w0 W:World} {g:Nat} {f0:ByteArray} {f1:Int} {f2:Int} {W1:World} {S:Nat→Prop} (h:IsS57 w0 W g f0 f1 f2) (hk:Kept W W1 S) (hne:¬ S g):IsS57 w0 W1 g f0 f1 f2:=by
 obtain ⟨hb,hg⟩:=h
 exact ⟨blk_kept hb hk hne,hg⟩
theorem IsS57.below {w0 W:World} {g:Nat} {f0:ByteArray} {f1:Int} {f2:Int} {W1:World} (h:IsS57 w0 W g f0 f1 f2) (hw:Below W.heap.size W W1):IsS57 w0 W1 g f0 f1 f2:=h.grown (grown_of_below hw none) (by simp)
theorem IsS57.alloc {w0 W:World} {g:Nat} {f0:ByteArray} {f1:Int} {f2:Int} (h:IsS57 w0 W g f0 f1 f2) (o:Obj):IsS57 w0 (W.alloc o) g f0 f1 f2:=h.below (below_alloc (Below.refl _ _) o)
theorem IsS57.drewN {w0 W:World} {g:Nat} {f0:ByteArray} {f1:Int} {f2:Int} (h:IsS57 w0 W g f0 f1 f2) (m:Nat):IsS57 w0 (W.drewN m) g f0 f1 f2:=h
theorem IsS57.drew {w0 W:World} {g:Nat} {f0:ByteArray} {f1:Int} {f2:Int} (h:IsS57 w0 W g f0 f1 f2):IsS57 w0 W.drew g f0 f1 f2:=h
theorem IsS57.at_ {w0 W:World} {g:Nat} {f0:ByteArray} {f1:Int} {f2:Int} {w':World} {m:Nat} (hq:W.drewN m=w') (h:IsS57 w0 W g f0 f1 f2):IsS57 w0 w' g f0 f1 f2:=by subst hq;exact IsS57.drewN h m
theorem IsS57.apart {w0 W:World} {g:Nat} {f0:ByteArray} {f1:Int} {f2:Int} {α:Type} {d:Kd α} {e:Nat} {base:Nat} {ok:Nat→Prop} {v:Value} {xs:List α} (h:IsS57 w0 W g f0 f1 f2) (ho:d.R e W base ok v xs) (ht:∀ q,q ∈ e :: d.E→q ≠ 57):d.R e W base (fun k=>ok k∧k ≠ g) v xs:=by
 obtain ⟨hb,hg⟩:=h
 exact Kd.R_types ho hb ht
theorem IsS57.own_ne {w0 W:World} {g:Nat} {f0:ByteArray} {f1:Int} {f2:Int} {α:Type} {d:Kd α} {e:Nat} {base:Nat} {ok:Nat→Prop} {v:Value} {xs:List α} (h:IsS57 w0 W g f0 f1 f2) (ho:d.R e W base ok v xs) (ht:e ≠ 57):some g ≠ v.ownBlock:=by
 obtain ⟨hb,hg⟩:=h
 exact Kd.R_ne ho hb ht
theorem IsS57.apartQ {w0 W:World} {g:Nat} {f0:ByteArray} {f1:Int} {f2:Int} {α:Type} {d:Kd α} {e:Nat} {base:Nat} {ok:Nat→Prop} {v:Value} {xs:List α} (h:IsS57 w0 W g f0 f1 f2) (ho:d.Q e W base ok v xs) (ht:∀ q,q ∈ e :: d.E→q ≠ 57):d.Q e W base (fun k=>ok k∧k ≠ g) v xs:=by
 obtain ⟨hb,hg⟩:=h
 exact Kd.Q_types ho hb ht
theorem IsS57.own_neQ {w0 W:World} {g:Nat} {f0:ByteArray} {f1:Int} {f2:Int} {α:Type} {d:Kd α} {e:Nat} {base:Nat} {ok:Nat→Prop} {v:Value} {xs:List α} (h:IsS57 w0 W g f0 f1 f2) (ho:d.Q e W base ok v xs) (ht:e ≠ 57):some g ≠ v.ownBlock:=by
 obtain ⟨hb,hg⟩:=h
 exact Kd.Q_ne ho hb ht
theorem IsS57.apartS {w0 W:World} {g:Nat} {f0:ByteArray} {f1:Int} {f2:Int} {α:Type} {d:Kd α} {e:Nat} {base:Nat} {ok:Nat→Prop} {v:Value} {xs:List α} (h:IsS57 w0 W g f0 f1 f2) (ho:d.S e W base ok v xs) (ht:∀ q,q ∈ e :: d.E→q ≠ 57):d.S e W base (fun k=>ok k∧k ≠ g) v xs:=by
 obtain ⟨hb,hg⟩:=h
 exact Kd.S_types ho hb ht
theorem IsS57.own_neS {w0 W:World} {g:Nat} {f0:ByteArray} {f1:Int} {f2:Int} {α:Type} {d:Kd α} {e:Nat} {base:Nat} {ok:Nat→Prop} {v:Value} {xs:List α} (h:IsS57 w0 W g f0 f1 f2) (ho:d.S e W base ok v xs) (ht:e ≠ 57):some g ≠ v.ownBlock:=by
 obtain ⟨hb,hg⟩:=h
 exact Kd.S_ne ho hb ht
theorem IsS57.lt {w0 W:World} {g:Nat} {f0:ByteArray} {f1:Int} {f2:Int} (h:IsS57 w0 W g f0 f1 f2):g < W.heap.size:=by
 obtain ⟨hb,hg⟩:=h
 exact blk_lt hb
theorem IsS57.ge {w0 W:World} {g:Nat} {f0:ByteArray} {f1:Int} {f2:Int} (h:IsS57 w0 W g f0 f1 f2):w0.heap.size≤g:=by
 obtain ⟨hb,hg⟩:=h
 exact hg
theorem IsS57.ne_blk {w0 W:World} {g:Nat} {f0:ByteArray} {f1:Int} {f2:Int} {a:Nat} {cs:Array Value} {t:TypeId} {fr:Nat × Nat} (h:IsS57 w0 W g f0 f1 f2) (hb2:W.heap[a]?=some (.cells cs t fr)) (ht:t ≠ 57):g ≠ a:=by
 obtain ⟨hb,hg⟩:=h
 rintro rfl
 rw [hb] at hb2
 injection hb2 with hb2
 injection hb2 with _ ht2
 exact ht ht2.symm
theorem IsS57.far {w0 W:World} {g:Nat} {f0:ByteArray} {f1:Int} {f2:Int} {p:Addr} (h:IsS57 w0 W g f0 f1 f2) (hne:g ≠ p.block) (u:Value):IsS57 w0 (W.setCell p u) g f0 f1 f2:=by
 obtain ⟨hb,hg⟩:=h
 exact ⟨blk_far hb hne u,hg⟩
theorem cellS57_0 {W:World} {g:Nat} {f0:ByteArray} {f1:Int} {f2:Int} (h:W.heap[g]?=some (.cells #[.string f0,.int .i64 f1,.int .i64 f2] 57 (0,0))):W.cell? ⟨g,0,none⟩=some (.string f0):=(blk_cell h 0).trans rfl
theorem IsS57.set_0 {w0 W:World} {g:Nat} {f0:ByteArray} {f1:Int} {f2:Int} (h:IsS57 w0 W g f0 f1 f2) (x:ByteArray):IsS57 w0 (W.setCell ⟨g,0,none⟩ (.string x)) g x f1 f2:=by
 obtain ⟨hb,hg⟩:=h
 exact ⟨by simpa using blk_set hb 0 (.string x),hg⟩
theorem cellS57_1 {W:World} {g:Nat} {f0:ByteArray} {f1:Int} {f2:Int} (h:W.heap[g]?=some (.cells #[.string f0,.int .i64 f1,.int .i64 f2] 57 (0,0))):W.cell? ⟨g,1,none⟩=some (.int .i64 f1):=(blk_cell h 1).trans rfl
theorem IsS57.set_1 {w0 W:World} {g:Nat} {f0:ByteArray} {f1:Int} {f2:Int} (h:IsS57 w0 W g f0 f1 f2) (x:Int):IsS57 w0 (W.setCell ⟨g,1,none⟩ (.int .i64 x)) g f0 x f2:=by
 obtain ⟨hb,hg⟩:=h
 exact ⟨by simpa using blk_set hb 1 (.int .i64 x),hg⟩
theorem cellS57_2 {W:World} {g:Nat} {f0:ByteArray} {f1:Int} {f2:Int} (h:W.heap[g]?=some (.cells #[.string f0,.int .i64 f1,.int .i64 f2] 57 (0,0))):W.cell? ⟨g,2,none⟩=some (.int .i64 f2):=(blk_cell h 2).trans rfl
theorem IsS57.set_2 {w0 W:World} {g:Nat} {f0:ByteArray} {f1:Int} {f2:Int} (h:IsS57 w0 W g f0 f1 f2) (x:Int):IsS57 w0 (W.setCell ⟨g,2,none⟩ (.int .i64 x)) g f0 f1 x:=by
 obtain ⟨hb,hg⟩:=h
 exact ⟨by simpa using blk_set hb 2 (.int .i64 x),hg⟩
theorem IsS57.new (w0 W:World) (f0:ByteArray) (f1:Int) (f2:Int) (hB:Below w0.heap.size w0 W):IsS57 w0 (W.alloc (.cells #[.string f0,.int .i64 f1,.int .i64 f2] 57)) W.heap.size f0 f1 f2:=⟨by simpa using heap_alloc_new W _,hB.size⟩

/-! ### factotumref01_Reader_Left: function 25 -/
def factotumref01_Reader_Left.f (s0_0:ByteArray) (s0_1:Int) (s0_2:Int):Option (Int × ByteArray × Int × Int):=some (wrap64 ((s0_0.size:Int) - s0_1),s0_0,s0_1,s0_2)
set_option maxHeartbeats 8000000 in
set_option maxRecDepth 100000 in
theorem factotumref01_Reader_Left.calls (g:Nat) (s0_0:ByteArray) (s0_1:Int) (s0_2:Int) (r1:Int) (r2:ByteArray) (r3:Int) (r4:Int) (w0 w:World) (hI:IsS57 w0 w g s0_0 s0_1 s0_2) (hB:Below w0.heap.size w0 w) (h:factotumref01_Reader_Left.f s0_0 s0_1 s0_2=some (r1,r2,r3,r4)) :
  Calls Tryd.prog 25 #[.pointer (some ⟨g,0,none⟩)] w fun e w'=>e=.returned (.int .i64 r1)∧IsS57 w0 w' g r2 r3 r4∧Below w0.heap.size w0 w'∧KeepBut w w' g none:=by
 have HI0:=Aside0.mk hI
 have HK:=Aside0.mk (KeepBut.refl w g none)
 have HL:=Aside0.mk hB.size
 clear hI
 have HW0:=Aside0.mk hB.size
 have HB:=Aside0.mk hB
 clear hB
 have H:(some (wrap64 ((s0_0.size:Int) - s0_1),s0_0,s0_1,s0_2))=some (r1,r2,r3,r4):=h
 clear h
 simp only [Option.some.injEq,Prod.mk.injEq] at H
 obtain ⟨rfl,rfl,rfl,rfl⟩:=H
 obtain ⟨HGz2,hgz2⟩:=HI0.out
 have hcz2_0:=cellS57_0 HGz2
 have hcz2_1:=cellS57_1 HGz2
 have hcz2_2:=cellS57_2 HGz2
 have hfz2_0:=blk_frozen HGz2 0
 have hfz2_1:=blk_frozen HGz2 1
 have hfz2_2:=blk_frozen HGz2 2
 clear HGz2 hgz2
 go_enter Tryd.func25,Tryd.ntmps25
 go_wp2
 repeat (go_quiet (fail);try go_wp2)
 go_ret
 exact ⟨by first|(with_reducible rfl)|(simp only [isEmpty_bne,Bool.not_not] <;> rfl)|rfl|(simp [*,errW_none,errW_some] <;> rfl),by repeat (first|(with_reducible first|exact HI0.out|apply IsS57.alloc|apply IsS57.drewN|apply IsS57.drew|apply IsS57.set_0|apply IsS57.set_1|apply IsS57.set_2)|exact HI0.out),by repeat (first|(with_reducible first|exact HB.out|apply zl1|apply zl2|apply zl3|refine below_set ?_ (IsS57.ge HI0.out))|exact HB.out),by repeat (first|(with_reducible first|exact HK.out|apply KeepBut.set_|apply keep_drewN|apply keep_drew|apply keep_alloc)|exact HK.out)⟩

/-! ### factotumref01_Reader_Raw: function 48 -/
def factotumref01_Reader_Raw.f (s0_0:ByteArray) (s0_1:Int) (s0_2:Int) (a1:Int):Option (ByteArray × ByteArray × Int × Int):=if s0_2=0 then ((factotumref01_Reader_Left.f s0_0 s0_1 s0_2).bind fun bt228=>(if (mx a1 0) > bt228.1 then (some ((⟨#[]⟩:ByteArray),bt228.2.1,bt228.2.2.1,2)) else (if 0≤(wrap64 ((wrap64 (bt228.2.2.1 + (mx a1 0))) - (mx a1 0))) then (if (wrap64 ((wrap64 (bt228.2.2.1 + (mx a1 0))) - (mx a1 0)))≤(wrap64 (bt228.2.2.1 + (mx a1 0))) then (if (wrap64 (bt228.2.2.1 + (mx a1 0)))≤(bt228.2.1.size:Int) then (some (bt228.2.1.extract ((wrap64 ((wrap64 (bt228.2.2.1 + (mx a1 0))) - (mx a1 0))):Int).toNat ((wrap64 (bt228.2.2.1 + (mx a1 0))):Int).toNat,bt228.2.1,wrap64 (bt228.2.2.1 + (mx a1 0)),bt228.2.2.2)) else (none)) else (none)) else (none)))) else (some ((⟨#[]⟩:ByteArray),s0_0,s0_1,s0_2))
set_option maxHeartbeats 8000000 in
set_option maxRecDepth 100000 in
theorem factotumref01_Reader_Raw.calls (g:Nat) (s0_0:ByteArray) (s0_1:Int) (s0_2:Int) (a1:Int) (r1:ByteArray) (r2:ByteArray) (r3:Int) (r4:Int) (w0 w:World) (hI:IsS57 w0 w g s0_0 s0_1 s0_2) (hB:Below w0.heap.size w0 w) (h:factotumref01_Reader_Raw.f s0_0 s0_1 s0_2 a1=some (r1,r2,r3,r4)) :
  Calls Tryd.prog 48 #[.pointer (some ⟨g,0,none⟩),.int .i64 a1] w fun e w'=>e=.returned (.string r1)∧IsS57 w0 w' g r2 r3 r4∧Below w0.heap.size w0 w'∧KeepBut w w' g none:=by
 have HI0:=Aside0.mk hI
 have HK:=Aside0.mk (KeepBut.refl w g none)
 have HL:=Aside0.mk hB.size
 clear hI
 have HW0:=Aside0.mk hB.size
 have HB:=Aside0.mk hB
 clear hB
 have H:(if s0_2=0 then ((factotumref01_Reader_Left.f s0_0 s0_1 s0_2).bind fun bt228=>(if (mx a1 0) > bt228.1 then (some ((⟨#[]⟩:ByteArray),bt228.2.1,bt228.2.2.1,2)) else (if 0≤(wrap64 ((wrap64 (bt228.2.2.1 + (mx a1 0))) - (mx a1 0))) then (if (wrap64 ((wrap64 (bt228.2.2.1 + (mx a1 0))) - (mx a1 0)))≤(wrap64 (bt228.2.2.1 + (mx a1 0))) then (if (wrap64 (bt228.2.2.1 + (mx a1 0)))≤(bt228.2.1.size:Int) then (some (bt228.2.1.extract ((wrap64 ((wrap64 (bt228.2.2.1 + (mx a1 0))) - (mx a1 0))):Int).toNat ((wrap64 (bt228.2.2.1 + (mx a1 0))):Int).toNat,bt228.2.1,wrap64 (bt228.2.2.1 + (mx a1 0)),bt228.2.2.2)) else (none)) else (none)) else (none)))) else (some ((⟨#[]⟩:ByteArray),s0_0,s0_1,s0_2)))=some (r1,r2,r3,r4):=h
 clear h
 obtain ⟨ji3,hji3⟩:∃ j_:Int,(mx a1 0)=j_:=⟨_,rfl⟩
 replace H:(if s0_2=0 then ((factotumref01_Reader_Left.f s0_0 s0_1 s0_2).bind fun bt228=>(if (ji3) > bt228.1 then (some ((⟨#[]⟩:ByteArray),bt228.2.1,bt228.2.2.1,2)) else (if 0≤(wrap64 ((wrap64 (bt228.2.2.1 + (ji3))) - (ji3))) then (if (wrap64 ((wrap64 (bt228.2.2.1 + (ji3))) - (ji3)))≤(wrap64 (bt228.2.2.1 + (ji3))) then (if (wrap64 (bt228.2.2.1 + (ji3)))≤(bt228.2.1.size:Int) then (some (bt228.2.1.extract ((wrap64 ((wrap64 (bt228.2.2.1 + (ji3))) - (ji3))):Int).toNat ((wrap64 (bt228.2.2.1 + (ji3))):Int).toNat,bt228.2.1,wrap64 (bt228.2.2.1 + (ji3)),bt228.2.2.2)) else (none)) else (none)) else (none)))) else (some ((⟨#[]⟩:ByteArray),s0_0,s0_1,s0_2)))=some (r1,r2,r3,r4):=by first|(rw [hji3] at H;exact H)|(simp only [hji3] at H ⊢;exact H)
 (try (have hji3l:0≤ji3:=by (rw [← hji3];unfold mx;(repeat' split) <;> omega)))
 (try (have hji3m:0≤ji3:=by omega))
 have hji3_:(if a1 < 0 then 0 else a1)=ji3:=hji3
 by_cases c4:s0_2=0
 ·rw [if_pos c4] at H
  have c4b0:(s0_2 == 0)=true:=beq_iff_eq.mpr c4
  have c4b1:(s0_2 != 0)=false:=bne_eq_false_iff_eq.mpr c4
  clear c4
  replace H:=Option.bind_eq_some_iff.mp H
  obtain ⟨⟨t228,t229,t230,t231⟩,A50,H⟩:=H
  replace H:(if (ji3) > t228 then (some ((⟨#[]⟩:ByteArray),t229,t230,2)) else (if 0≤(wrap64 ((wrap64 (t230 + (ji3))) - (ji3))) then (if (wrap64 ((wrap64 (t230 + (ji3))) - (ji3)))≤(wrap64 (t230 + (ji3))) then (if (wrap64 (t230 + (ji3)))≤(t229.size:Int) then (some (t229.extract ((wrap64 ((wrap64 (t230 + (ji3))) - (ji3))):Int).toNat ((wrap64 (t230 + (ji3))):Int).toNat,t229,wrap64 (t230 + (ji3)),t231)) else (none)) else (none)) else (none)))=some (r1,r2,r3,r4):=H
  have A5:=Aside0.mk A50
  clear A50
  by_cases c6:(ji3) > t228
  ·rw [if_pos c6] at H
   have c6b0:decide (t228 < (ji3))=true:=decide_eq_true c6
   clear c6
   simp only [Option.some.injEq,Prod.mk.injEq] at H
   obtain ⟨rfl,rfl,rfl,rfl⟩:=H
   obtain ⟨HGz7,hgz7⟩:=HI0.out
   have hcz7_0:=cellS57_0 HGz7
   have hcz7_1:=cellS57_1 HGz7
   have hcz7_2:=cellS57_2 HGz7
   have hfz7_0:=blk_frozen HGz7 0
   have hfz7_1:=blk_frozen HGz7 1
   have hfz7_2:=blk_frozen HGz7 2
   clear HGz7 hgz7
   go_enter Tryd.func48,Tryd.ntmps48
   go_wp2_with (first|(go_at_call 25;(with_reducible refine (factotumref01_Reader_Left.calls g s0_0 s0_1 s0_2 t228 t229 t230 t231 w0 _ ?side1 ?side2 A5.out).mono ?_);(case side1=>repeat (first|(with_reducible first|exact HI0.out|apply IsS57.alloc|apply IsS57.drewN|apply IsS57.drew|apply IsS57.set_0|apply IsS57.set_1|apply IsS57.set_2)|exact HI0.out));(case side2=>repeat (first|(with_reducible first|exact HB.out|apply zl1|apply zl2|apply zl3|refine below_set ?_ (IsS57.ge HI0.out))|exact HB.out));rintro e w8 ⟨rfl,hi,hb,hk⟩;replace HK:=Aside0.mk (KeepBut.trans (by repeat (first|(with_reducible first|exact HK.out|apply KeepBut.set_|apply keep_drewN|apply keep_drew|apply keep_alloc)|exact HK.out)) hk (.inl rfl));replace HB:=Aside0.mk (hb);replace HI0:=Aside0.mk (hi);(try clear hb);(try clear hk);(try clear hi);obtain ⟨HGz9,hgz9⟩:=HI0.out;have hcz9_0:=cellS57_0 HGz9;have hcz9_1:=cellS57_1 HGz9;have hcz9_2:=cellS57_2 HGz9;have hfz9_0:=blk_frozen HGz9 0;have hfz9_1:=blk_frozen HGz9 1;have hfz9_2:=blk_frozen HGz9 2;clear HGz9 hgz9))
   repeat (go_quiet (first|(go_at_call 25;(with_reducible refine (factotumref01_Reader_Left.calls g s0_0 s0_1 s0_2 t228 t229 t230 t231 w0 _ ?side1 ?side2 A5.out).mono ?_);(case side1=>repeat (first|(with_reducible first|exact HI0.out|apply IsS57.alloc|apply IsS57.drewN|apply IsS57.drew|apply IsS57.set_0|apply IsS57.set_1|apply IsS57.set_2)|exact HI0.out));(case side2=>repeat (first|(with_reducible first|exact HB.out|apply zl1|apply zl2|apply zl3|refine below_set ?_ (IsS57.ge HI0.out))|exact HB.out));rintro e w8 ⟨rfl,hi,hb,hk⟩;replace HK:=Aside0.mk (KeepBut.trans (by repeat (first|(with_reducible first|exact HK.out|apply KeepBut.set_|apply keep_drewN|apply keep_drew|apply keep_alloc)|exact HK.out)) hk (.inl rfl));replace HB:=Aside0.mk (hb);replace HI0:=Aside0.mk (hi);(try clear hb);(try clear hk);(try clear hi);obtain ⟨HGz9,hgz9⟩:=HI0.out;have hcz9_0:=cellS57_0 HGz9;have hcz9_1:=cellS57_1 HGz9;have hcz9_2:=cellS57_2 HGz9;have hfz9_0:=blk_frozen HGz9 0;have hfz9_1:=blk_frozen HGz9 1;have hfz9_2:=blk_frozen HGz9 2;clear HGz9 hgz9));try go_wp2_with (first|(go_at_call 25;(with_reducible refine (factotumref01_Reader_Left.calls g s0_0 s0_1 s0_2 t228 t229 t230 t231 w0 _ ?side1 ?side2 A5.out).mono ?_);(case side1=>repeat (first|(with_reducible first|exact HI0.out|apply IsS57.alloc|apply IsS57.drewN|apply IsS57.drew|apply IsS57.set_0|apply IsS57.set_1|apply IsS57.set_2)|exact HI0.out));(case side2=>repeat (first|(with_reducible first|exact HB.out|apply zl1|apply zl2|apply zl3|refine below_set ?_ (IsS57.ge HI0.out))|exact HB.out));rintro e w8 ⟨rfl,hi,hb,hk⟩;replace HK:=Aside0.mk (KeepBut.trans (by repeat (first|(with_reducible first|exact HK.out|apply KeepBut.set_|apply keep_drewN|apply keep_drew|apply keep_alloc)|exact HK.out)) hk (.inl rfl));replace HB:=Aside0.mk (hb);replace HI0:=Aside0.mk (hi);(try clear hb);(try clear hk);(try clear hi);obtain ⟨HGz9,hgz9⟩:=HI0.out;have hcz9_0:=cellS57_0 HGz9;have hcz9_1:=cellS57_1 HGz9;have hcz9_2:=cellS57_2 HGz9;have hfz9_0:=blk_frozen HGz9 0;have hfz9_1:=blk_frozen HGz9 1;have hfz9_2:=blk_frozen HGz9 2;clear HGz9 hgz9)))
   go_ret
   exact ⟨by first|(with_reducible rfl)|(simp only [isEmpty_bne,Bool.not_not] <;> with_reducible rfl)|(simp [errW_none,errW_some] <;> with_reducible rfl)|(simp only [isEmpty_bne,Bool.not_not] <;> rfl)|rfl|(simp [errW_none,errW_some] <;> rfl)|(simp only [← hji3];first|rfl|(simp [errW_none,errW_some] <;> rfl))|(simp [*,errW_none,errW_some] <;> rfl),by repeat (first|(with_reducible first|exact HI0.out|apply IsS57.alloc|apply IsS57.drewN|apply IsS57.drew|apply IsS57.set_0|apply IsS57.set_1|apply IsS57.set_2)|exact HI0.out),by repeat (first|(with_reducible first|exact HB.out|apply zl1|apply zl2|apply zl3|refine below_set ?_ (IsS57.ge HI0.out))|exact HB.out),by repeat (first|(with_reducible first|exact HK.out|apply KeepBut.set_|apply keep_drewN|apply keep_drew|apply keep_alloc)|exact HK.out)⟩
  ·rw [if_neg c6] at H
   have c6b0:decide (t228 < (ji3))=false:=decide_eq_false c6
   clear c6
   obtain ⟨ji10,hji10⟩:∃ j_:Int,(wrap64 ((wrap64 (t230 + (ji3))) - (ji3)))=j_:=⟨_,rfl⟩
   replace H:(if 0≤(ji10) then (if (ji10)≤(wrap64 (t230 + (ji3))) then (if (wrap64 (t230 + (ji3)))≤(t229.size:Int) then (some (t229.extract ((ji10):Int).toNat ((wrap64 (t230 + (ji3))):Int).toNat,t229,wrap64 (t230 + (ji3)),t231)) else (none)) else (none)) else (none))=some (r1,r2,r3,r4):=by first|(rw [hji10] at H;exact H)|(simp only [hji10] at H ⊢;exact H)
   (try rw [hji10] at A5)
   have hji10w:(IntKind.i64.wrap ((wrap64 (t230 + (ji3))) - (ji3)))=ji10:=(i64_w _).trans hji10
   by_cases c11:0≤(ji10)
   ·rw [if_pos c11] at H
    have c11b0:=eq_true c11
    have c11b1:decide (0≤(ji10))=true:=decide_eq_true c11
    clear c11
    by_cases c12:(ji10)≤(wrap64 (t230 + (ji3)))
    ·rw [if_pos c12] at H
     have c12b0:=eq_true c12
     have c12b1:decide ((ji10)≤(wrap64 (t230 + (ji3))))=true:=decide_eq_true c12
     by_cases c13:(wrap64 (t230 + (ji3)))≤(t229.size:Int)
     ·rw [if_pos c13] at H
      have c13b0:=eq_true c13
      have c13b1:decide ((wrap64 (t230 + (ji3)))≤(t229.size:Int))=true:=decide_eq_true c13
      simp only [Option.some.injEq,Prod.mk.injEq] at H
      obtain ⟨rfl,rfl,rfl,rfl⟩:=H
      obtain ⟨HGz14,hgz14⟩:=HI0.out
      have hcz14_0:=cellS57_0 HGz14
      have hcz14_1:=cellS57_1 HGz14
      have hcz14_2:=cellS57_2 HGz14
      have hfz14_0:=blk_frozen HGz14 0
      have hfz14_1:=blk_frozen HGz14 1
      have hfz14_2:=blk_frozen HGz14 2
      clear HGz14 hgz14
      go_enter Tryd.func48,Tryd.ntmps48
      go_wp2_with (first|(go_at_call 25;(with_reducible refine (factotumref01_Reader_Left.calls g s0_0 s0_1 s0_2 t228 t229 t230 t231 w0 _ ?side1 ?side2 A5.out).mono ?_);(case side1=>repeat (first|(with_reducible first|exact HI0.out|apply IsS57.alloc|apply IsS57.drewN|apply IsS57.drew|apply IsS57.set_0|apply IsS57.set_1|apply IsS57.set_2)|exact HI0.out));(case side2=>repeat (first|(with_reducible first|exact HB.out|apply zl1|apply zl2|apply zl3|refine below_set ?_ (IsS57.ge HI0.out))|exact HB.out));rintro e w15 ⟨rfl,hi,hb,hk⟩;replace HK:=Aside0.mk (KeepBut.trans (by repeat (first|(with_reducible first|exact HK.out|apply KeepBut.set_|apply keep_drewN|apply keep_drew|apply keep_alloc)|exact HK.out)) hk (.inl rfl));replace HB:=Aside0.mk (hb);replace HI0:=Aside0.mk (hi);(try clear hb);(try clear hk);(try clear hi);obtain ⟨HGz16,hgz16⟩:=HI0.out;have hcz16_0:=cellS57_0 HGz16;have hcz16_1:=cellS57_1 HGz16;have hcz16_2:=cellS57_2 HGz16;have hfz16_0:=blk_frozen HGz16 0;have hfz16_1:=blk_frozen HGz16 1;have hfz16_2:=blk_frozen HGz16 2;clear HGz16 hgz16))
      repeat (go_quiet (first|(go_at_call 25;(with_reducible refine (factotumref01_Reader_Left.calls g s0_0 s0_1 s0_2 t228 t229 t230 t231 w0 _ ?side1 ?side2 A5.out).mono ?_);(case side1=>repeat (first|(with_reducible first|exact HI0.out|apply IsS57.alloc|apply IsS57.drewN|apply IsS57.drew|apply IsS57.set_0|apply IsS57.set_1|apply IsS57.set_2)|exact HI0.out));(case side2=>repeat (first|(with_reducible first|exact HB.out|apply zl1|apply zl2|apply zl3|refine below_set ?_ (IsS57.ge HI0.out))|exact HB.out));rintro e w15 ⟨rfl,hi,hb,hk⟩;replace HK:=Aside0.mk (KeepBut.trans (by repeat (first|(with_reducible first|exact HK.out|apply KeepBut.set_|apply keep_drewN|apply keep_drew|apply keep_alloc)|exact HK.out)) hk (.inl rfl));replace HB:=Aside0.mk (hb);replace HI0:=Aside0.mk (hi);(try clear hb);(try clear hk);(try clear hi);obtain ⟨HGz16,hgz16⟩:=HI0.out;have hcz16_0:=cellS57_0 HGz16;have hcz16_1:=cellS57_1 HGz16;have hcz16_2:=cellS57_2 HGz16;have hfz16_0:=blk_frozen HGz16 0;have hfz16_1:=blk_frozen HGz16 1;have hfz16_2:=blk_frozen HGz16 2;clear HGz16 hgz16));try go_wp2_with (first|(go_at_call 25;(with_reducible refine (factotumref01_Reader_Left.calls g s0_0 s0_1 s0_2 t228 t229 t230 t231 w0 _ ?side1 ?side2 A5.out).mono ?_);(case side1=>repeat (first|(with_reducible first|exact HI0.out|apply IsS57.alloc|apply IsS57.drewN|apply IsS57.drew|apply IsS57.set_0|apply IsS57.set_1|apply IsS57.set_2)|exact HI0.out));(case side2=>repeat (first|(with_reducible first|exact HB.out|apply zl1|apply zl2|apply zl3|refine below_set ?_ (IsS57.ge HI0.out))|exact HB.out));rintro e w15 ⟨rfl,hi,hb,hk⟩;replace HK:=Aside0.mk (KeepBut.trans (by repeat (first|(with_reducible first|exact HK.out|apply KeepBut.set_|apply keep_drewN|apply keep_drew|apply keep_alloc)|exact HK.out)) hk (.inl rfl));replace HB:=Aside0.mk (hb);replace HI0:=Aside0.mk (hi);(try clear hb);(try clear hk);(try clear hi);obtain ⟨HGz16,hgz16⟩:=HI0.out;have hcz16_0:=cellS57_0 HGz16;have hcz16_1:=cellS57_1 HGz16;have hcz16_2:=cellS57_2 HGz16;have hfz16_0:=blk_frozen HGz16 0;have hfz16_1:=blk_frozen HGz16 1;have hfz16_2:=blk_frozen HGz16 2;clear HGz16 hgz16)))
      go_ret
      exact ⟨by first|(with_reducible rfl)|(simp only [isEmpty_bne,Bool.not_not] <;> with_reducible rfl)|(simp [errW_none,errW_some] <;> with_reducible rfl)|(simp only [isEmpty_bne,Bool.not_not] <;> rfl)|rfl|(simp [errW_none,errW_some] <;> rfl)|(simp only [← hji3,← hji10];first|rfl|(simp [errW_none,errW_some] <;> rfl))|(simp [*,errW_none,errW_some] <;> rfl),by repeat (first|(with_reducible first|exact HI0.out|apply IsS57.alloc|apply IsS57.drewN|apply IsS57.drew|apply IsS57.set_0|apply IsS57.set_1|apply IsS57.set_2)|exact HI0.out),by repeat (first|(with_reducible first|exact HB.out|apply zl1|apply zl2|apply zl3|refine below_set ?_ (IsS57.ge HI0.out))|exact HB.out),by repeat (first|(with_reducible first|exact HK.out|apply KeepBut.set_|apply keep_drewN|apply keep_drew|apply keep_alloc)|exact HK.out)⟩
     ·rw [if_neg c13] at H
      exact absurd H (by simp)
    ·rw [if_neg c12] at H
     exact absurd H (by simp)
   ·rw [if_neg c11] at H
    exact absurd H (by simp)
 ·rw [if_neg c4] at H
  have c4b0:(s0_2 == 0)=false:=beq_eq_false_iff_ne.mpr c4
  have c4b1:(s0_2 != 0)=true:=bne_iff_ne.mpr c4
  simp only [Option.some.injEq,Prod.mk.injEq] at H
  obtain ⟨rfl,rfl,rfl,rfl⟩:=H
  obtain ⟨HGz17,hgz17⟩:=HI0.out
  have hcz17_0:=cellS57_0 HGz17
  have hcz17_1:=cellS57_1 HGz17
  have hcz17_2:=cellS57_2 HGz17
  have hfz17_0:=blk_frozen HGz17 0
  have hfz17_1:=blk_frozen HGz17 1
  have hfz17_2:=blk_frozen HGz17 2
  clear HGz17 hgz17
  go_enter Tryd.func48,Tryd.ntmps48
  go_wp2
  repeat (go_quiet (fail);try go_wp2)
  go_ret
  exact ⟨by first|(with_reducible rfl)|(simp only [isEmpty_bne,Bool.not_not] <;> with_reducible rfl)|(simp [errW_none,errW_some] <;> with_reducible rfl)|(simp only [isEmpty_bne,Bool.not_not] <;> rfl)|rfl|(simp [errW_none,errW_some] <;> rfl)|(simp only [← hji3];first|rfl|(simp [errW_none,errW_some] <;> rfl))|(simp [*,errW_none,errW_some] <;> rfl),by repeat (first|(with_reducible first|exact HI0.out|apply IsS57.alloc|apply IsS57.drewN|apply IsS57.drew|apply IsS57.set_0|apply IsS57.set_1|apply IsS57.set_2)|exact HI0.out),by repeat (first|(with_reducible first|exact HB.out|apply zl1|apply zl2|apply zl3|refine below_set ?_ (IsS57.ge HI0.out))|exact HB.out),by repeat (first|(with_reducible first|exact HK.out|apply KeepBut.set_|apply keep_drewN|apply keep_drew|apply keep_alloc)|exact HK.out)⟩

end Go.Proofs.YtljfichnlgfikaaDoor.PAll
