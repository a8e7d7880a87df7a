/- Printed walks of the functions that the laws reach: each function, what it computes, and that it does. No conditions. -/
import Derived.Test.YtljfichnlgfikaaDoorPAllx0
namespace Go.Proofs.YtljfichnlgfikaaDoor.PAll
open Go.RowKit Go.Proofs.YtljfichnlgfikaaDoor.XW Go.Proofs.YtljfichnlgfikaaDoor.XLib Go.Proofs.YtljfichnlgfikaaDoorW.PrintWords Go.Proofs.YtljfichnlgfikaaDoorW.PrintLast Go.Proofs.YtljfichnlgfikaaDoorW.PrintMore
attribute [local go_sem] max2_int min2_int max_two min_two max_three min_three max_four min_four   -- for this text's walks alone
set_option linter.unusedVariables false
set_option linter.unusedSimpArgs false

/-- A state of type 74 at block g of W; what its slices lead to came in by w0. -/
def IsS74 (w0 W:World) (g:Nat) (f0:ByteArray) (f1:Int):Prop:=W.heap[g]?=some (.cells #[.string f0,.int .i64 f1] 74 (0,0))∧w0.heap.size≤g
theorem IsS74.grown {w0 W:World} {g:Nat} {f0:ByteArray} {f1:Int} {W1:World} {row:Option Nat} (h:IsS74 w0 W g f0 f1) (hw:W.grownBy W1 row) (hne:some g ≠ row):IsS74 w0 W1 g f0 f1:=by
 obtain ⟨hb,hg⟩:=h
 exact ⟨blk_grown hb hw hne,hg⟩
theorem IsS74.own_neN {w0 W:World} {g:Nat} {f0:ByteArray} {f1:Int} {α:Type} {d:Kd α} {e:Nat} {base:Nat} {ok:Nat→Prop} {v:Value} {xs:List α} (h:IsS74 w0 W g f0 f1) (ho:Kd.N d e W base ok v xs) (ht:e ≠ 74):some g ≠ v.ownBlock:=by
 obtain ⟨hb,hg⟩:=h
 exact Kd.N_ne ho hb ht
theorem IsS74.fresh {w0 W:World} {g:Nat} {f0:ByteArray} {f1:Int} (h:IsS74 w0 W g f0 f1):∀ k,W.heap.size≤k→k ≠ g:=by
 obtain ⟨hb,hg⟩:=h
 exact Kd.freshB hb
theorem IsS74.kept {w0 W:World} {g:Nat} {f0:ByteArray} {f1:Int} {W1:World} {S:Nat→Prop} (h:IsS74 w0 W g f0 f1) (hk:Kept W W1 S) (hne:¬ S g):IsS74 w0 W1 g f0 f1:=by
 obtain ⟨hb,hg⟩:=h
 exact ⟨blk_kept hb hk hne,hg⟩
theorem IsS74.below {w0 W:World} {g:Nat} {f0:ByteArray} {f1:Int} {W1:World} (h:IsS74 w0 W g f0 f1) (hw:Below W.heap.size W W1):IsS74 w0 W1 g f0 f1:=h.grown (grown_of_below hw none) (by simp)
theorem IsS74.alloc {w0 W:World} {g:Nat} {f0:ByteArray} {f1:Int} (h:IsS74 w0 W g f0 f1) (o:Obj):IsS74 w0 (W.alloc o) g f0 f1:=h.below (below_alloc (Below.refl _ _) o)
theorem IsS74.drewN {w0 W:World} {g:Nat} {f0:ByteArray} {f1:Int} (h:IsS74 w0 W g f0 f1) (m:Nat):IsS74 w0 (W.drewN m) g f0 f1:=h
theorem IsS74.drew {w0 W:World} {g:Nat} {f0:ByteArray} {f1:Int} (h:IsS74 w0 W g f0 f1):IsS74 w0 W.drew g f0 f1:=h
theorem IsS74.at_ {w0 W:World} {g:Nat} {f0:ByteArray} {f1:Int} {w':World} {m:Nat} (hq:W.drewN m=w') (h:IsS74 w0 W g f0 f1):IsS74 w0 w' g f0 f1:=by subst hq;exact IsS74.drewN h m
theorem IsS74.apart {w0 W:World} {g:Nat} {f0:ByteArray} {f1:Int} {α:Type} {d:Kd α} {e:Nat} {base:Nat} {ok:Nat→Prop} {v:Value} {xs:List α} (h:IsS74 w0 W g f0 f1) (ho:d.R e W base ok v xs) (ht:∀ q,q ∈ e :: d.E→q ≠ 74):d.R e W base (fun k=>ok k∧k ≠ g) v xs:=by
 obtain ⟨hb,hg⟩:=h
 exact Kd.R_types ho hb ht
theorem IsS74.own_ne {w0 W:World} {g:Nat} {f0:ByteArray} {f1:Int} {α:Type} {d:Kd α} {e:Nat} {base:Nat} {ok:Nat→Prop} {v:Value} {xs:List α} (h:IsS74 w0 W g f0 f1) (ho:d.R e W base ok v xs) (ht:e ≠ 74):some g ≠ v.ownBlock:=by
 obtain ⟨hb,hg⟩:=h
 exact Kd.R_ne ho hb ht
theorem IsS74.apartQ {w0 W:World} {g:Nat} {f0:ByteArray} {f1:Int} {α:Type} {d:Kd α} {e:Nat} {base:Nat} {ok:Nat→Prop} {v:Value} {xs:List α} (h:IsS74 w0 W g f0 f1) (ho:d.Q e W base ok v xs) (ht:∀ q,q ∈ e :: d.E→q ≠ 74):d.Q e W base (fun k=>ok k∧k ≠ g) v xs:=by
 obtain ⟨hb,hg⟩:=h
 exact Kd.Q_types ho hb ht
theorem IsS74.own_neQ {w0 W:World} {g:Nat} {f0:ByteArray} {f1:Int} {α:Type} {d:Kd α} {e:Nat} {base:Nat} {ok:Nat→Prop} {v:Value} {xs:List α} (h:IsS74 w0 W g f0 f1) (ho:d.Q e W base ok v xs) (ht:e ≠ 74):some g ≠ v.ownBlock:=by
 obtain ⟨hb,hg⟩:=h
 exact Kd.Q_ne ho hb ht
theorem IsS74.apartS {w0 W:World} {g:Nat} {f0:ByteArray} {f1:Int} {α:Type} {d:Kd α} {e:Nat} {base:Nat} {ok:Nat→Prop} {v:Value} {xs:List α} (h:IsS74 w0 W g f0 f1) (ho:d.S e W base ok v xs) (ht:∀ q,q ∈ e :: d.E→q ≠ 74):d.S e W base (fun k=>ok k∧k ≠ g) v xs:=by
 obtain ⟨hb,hg⟩:=h
 exact Kd.S_types ho hb ht
theorem IsS74.own_neS {w0 W:World} {g:Nat} {f0:ByteArray} {f1:Int} {α:Type} {d:Kd α} {e:Nat} {base:Nat} {ok:Nat→Prop} {v:Value} {xs:List α} (h:IsS74 w0 W g f0 f1) (ho:d.S e W base ok v xs) (ht:e ≠ 74):some g ≠ v.ownBlock:=by
 obtain ⟨hb,hg⟩:=h
 exact Kd.S_ne ho hb ht
theorem IsS74.lt {w0 W:World} {g:Nat} {f0:ByteArray} {f1:Int} (h:IsS74 w0 W g f0 f1):g < W.heap.size:=by
 obtain ⟨hb,hg⟩:=h
 exact blk_lt hb
theorem IsS74.ge {w0 W:World} {g:Nat} {f0:ByteArray} {f1:Int} (h:IsS74 w0 W g f0 f1):w0.heap.size≤g:=by
 obtain ⟨hb,hg⟩:=h
 exact hg
theorem IsS74.ne_blk {w0 W:World} {g:Nat} {f0:ByteArray} {f1:Int} {a:Nat} {cs:Array Value} {t:TypeId} {fr:Nat × Nat} (h:IsS74 w0 W g f0 f1) (hb2:W.heap[a]?=some (.cells cs t fr)) (ht:t ≠ 74):g ≠ a:=by
 obtain ⟨hb,hg⟩:=h
 rintro rfl
 rw [hb] at hb2
 injection hb2 with hb2
 injection hb2 with _ ht2
 exact ht ht2.symm
theorem IsS74.far {w0 W:World} {g:Nat} {f0:ByteArray} {f1:Int} {p:Addr} (h:IsS74 w0 W g f0 f1) (hne:g ≠ p.block) (u:Value):IsS74 w0 (W.setCell p u) g f0 f1:=by
 obtain ⟨hb,hg⟩:=h
 exact ⟨blk_far hb hne u,hg⟩
theorem cellS74_0 {W:World} {g:Nat} {f0:ByteArray} {f1:Int} (h:W.heap[g]?=some (.cells #[.string f0,.int .i64 f1] 74 (0,0))):W.cell? ⟨g,0,none⟩=some (.string f0):=(blk_cell h 0).trans rfl
theorem IsS74.set_0 {w0 W:World} {g:Nat} {f0:ByteArray} {f1:Int} (h:IsS74 w0 W g f0 f1) (x:ByteArray):IsS74 w0 (W.setCell ⟨g,0,none⟩ (.string x)) g x f1:=by
 obtain ⟨hb,hg⟩:=h
 exact ⟨by simpa using blk_set hb 0 (.string x),hg⟩
theorem cellS74_1 {W:World} {g:Nat} {f0:ByteArray} {f1:Int} (h:W.heap[g]?=some (.cells #[.string f0,.int .i64 f1] 74 (0,0))):W.cell? ⟨g,1,none⟩=some (.int .i64 f1):=(blk_cell h 1).trans rfl
theorem IsS74.set_1 {w0 W:World} {g:Nat} {f0:ByteArray} {f1:Int} (h:IsS74 w0 W g f0 f1) (x:Int):IsS74 w0 (W.setCell ⟨g,1,none⟩ (.int .i64 x)) g f0 x:=by
 obtain ⟨hb,hg⟩:=h
 exact ⟨by simpa using blk_set hb 1 (.int .i64 x),hg⟩
theorem IsS74.new (w0 W:World) (f0:ByteArray) (f1:Int) (hB:Below w0.heap.size w0 W):IsS74 w0 (W.alloc (.cells #[.string f0,.int .i64 f1] 74)) W.heap.size f0 f1:=⟨by simpa using heap_alloc_new W _,hB.size⟩

/-! ### pack_From: function 21 -/
def pack_From.f (a0:ByteArray):Option (ByteArray × Int):=some (a0,0)
set_option maxHeartbeats 8000000 in
set_option maxRecDepth 100000 in
theorem pack_From.calls (a0:ByteArray) (r1:ByteArray) (r2:Int) (w0 w:World) (hB:Below w0.heap.size w0 w) (h:pack_From.f a0=some (r1,r2)) :
  Calls Tryd.prog 21 #[.string a0] w fun e w'=>∃ g_:Nat,e=.returned (.pointer (some ⟨g_,0,none⟩))∧IsS74 w0 w' g_ r1 r2∧Below w0.heap.size w0 w'∧Below w.heap.size w w':=by
 have hu74:=Tryd.underlying74
 have HBW:=Aside0.mk (Below.refl w.heap.size w)
 have HW0:=Aside0.mk hB.size
 have HB:=Aside0.mk hB
 clear hB
 have H:(some (a0,0))=some (r1,r2):=h
 clear h
 simp only [Option.some.injEq,Prod.mk.injEq] at H
 obtain ⟨rfl,rfl⟩:=H
 go_enter Tryd.func21,Tryd.ntmps21
 go_wp2_with (first|((with_reducible refine gate_dst (N:=5) rfl ?_);refine box_event ?hg (N:=5) ?hd (cs:=#[.string a0,.int .i64 0]) (t:=74) ?hr ?_;(case hd=>rfl);(case hg=>rfl);(case hr=>first|(go_simp;done)|(go_simp;rfl));intro gb167 hg w2 hbox hb;replace HB:=Aside0.mk (below_step (by repeat (first|(with_reducible first|exact HB.out|apply zl1|apply zl2|apply zl3)|exact HB.out)) hb);have BK167:=Aside0.mk (hbox);have GW167:=Aside0.mk ((by rw [hg];exact (below_size (by repeat (first|(with_reducible first|exact HBW.out|apply zl1|apply zl2|apply zl3)|exact HBW.out))):w.heap.size≤gb167));have GE167:=Aside0.mk ((Nat.le_trans HW0.out (by rw [hg];exact (below_size (by repeat (first|(with_reducible first|exact HBW.out|apply zl1|apply zl2|apply zl3)|exact HBW.out))):w.heap.size≤gb167):w0.heap.size≤gb167));replace HBW:=Aside0.mk (below_step HBW.out hb);clear hb hbox hg))
 go_ret
 exact ⟨_,rfl,(show IsS74 w0 _ gb167 a0 0 from ⟨by (with_reducible repeat (first|apply zb1|apply zb2|apply zb3));exact BK167.out,GE167.out⟩),by repeat (first|(with_reducible first|exact HB.out|apply zl1|apply zl2|apply zl3|refine below_set ?_ GE167.out)|exact HB.out),by repeat (first|(with_reducible first|exact HBW.out|apply zl1|apply zl2|apply zl3|refine below_set ?_ GW167.out)|exact HBW.out)⟩

/-! ### pack_Reader_Left: function 22 -/
def pack_Reader_Left.f (s0_0:ByteArray) (s0_1:Int):Option (Int × ByteArray × Int):=some ((s0_0.size:Int),s0_0,s0_1)
set_option maxHeartbeats 8000000 in
set_option maxRecDepth 100000 in
theorem pack_Reader_Left.calls (g:Nat) (s0_0:ByteArray) (s0_1:Int) (r1:Int) (r2:ByteArray) (r3:Int) (w0 w:World) (hI:IsS74 w0 w g s0_0 s0_1) (hB:Below w0.heap.size w0 w) (h:pack_Reader_Left.f s0_0 s0_1=some (r1,r2,r3)) :
  Calls Tryd.prog 22 #[.pointer (some ⟨g,0,none⟩)] w fun e w'=>e=.returned (.int .i64 r1)∧IsS74 w0 w' g r2 r3∧Below w0.heap.size w0 w'∧KeepBut w w' g none:=by
 have HI0:=Aside0.mk hI
 have HK:=Aside0.mk (KeepBut.refl w g none)
 have HL:=Aside0.mk hB.size
 clear hI
 have HW0:=Aside0.mk hB.size
 have HB:=Aside0.mk hB
 clear hB
 have H:(some ((s0_0.size:Int),s0_0,s0_1))=some (r1,r2,r3):=h
 clear h
 simp only [Option.some.injEq,Prod.mk.injEq] at H
 obtain ⟨rfl,rfl,rfl⟩:=H
 obtain ⟨HGz2,hgz2⟩:=HI0.out
 have hcz2_0:=cellS74_0 HGz2
 have hcz2_1:=cellS74_1 HGz2
 have hfz2_0:=blk_frozen HGz2 0
 have hfz2_1:=blk_frozen HGz2 1
 clear HGz2 hgz2
 go_enter Tryd.func22,Tryd.ntmps22
 go_wp2
 go_ret
 exact ⟨by first|(with_reducible rfl)|(simp only [isEmpty_bne,Bool.not_not] <;> rfl)|rfl|(simp [*,errW_none,errW_some] <;> rfl),by repeat (first|(with_reducible first|exact HI0.out|apply IsS74.alloc|apply IsS74.drewN|apply IsS74.drew|apply IsS74.set_0|apply IsS74.set_1)|exact HI0.out),by repeat (first|(with_reducible first|exact HB.out|apply zl1|apply zl2|apply zl3|refine below_set ?_ (IsS74.ge HI0.out))|exact HB.out),by repeat (first|(with_reducible first|exact HK.out|apply KeepBut.set_|apply keep_drewN|apply keep_drew|apply keep_alloc)|exact HK.out)⟩

/-! ### pack_Reader_Err: function 24 -/
def pack_Reader_Err.f (s0_0:ByteArray) (s0_1:Int):Option (Int × ByteArray × Int):=some (s0_1,s0_0,s0_1)
set_option maxHeartbeats 8000000 in
set_option maxRecDepth 100000 in
theorem pack_Reader_Err.calls (g:Nat) (s0_0:ByteArray) (s0_1:Int) (r1:Int) (r2:ByteArray) (r3:Int) (w0 w:World) (hI:IsS74 w0 w g s0_0 s0_1) (hB:Below w0.heap.size w0 w) (h:pack_Reader_Err.f s0_0 s0_1=some (r1,r2,r3)) :
  Calls Tryd.prog 24 #[.pointer (some ⟨g,0,none⟩)] w fun e w'=>e=.returned (.int .i64 r1)∧IsS74 w0 w' g r2 r3∧Below w0.heap.size w0 w'∧KeepBut w w' g none:=by
 have HI0:=Aside0.mk hI
 have HK:=Aside0.mk (KeepBut.refl w g none)
 have HL:=Aside0.mk hB.size
 clear hI
 have HW0:=Aside0.mk hB.size
 have HB:=Aside0.mk hB
 clear hB
 have H:(some (s0_1,s0_0,s0_1))=some (r1,r2,r3):=h
 clear h
 simp only [Option.some.injEq,Prod.mk.injEq] at H
 obtain ⟨rfl,rfl,rfl⟩:=H
 obtain ⟨HGz2,hgz2⟩:=HI0.out
 have hcz2_0:=cellS74_0 HGz2
 have hcz2_1:=cellS74_1 HGz2
 have hfz2_0:=blk_frozen HGz2 0
 have hfz2_1:=blk_frozen HGz2 1
 clear HGz2 hgz2
 go_enter Tryd.func24,Tryd.ntmps24
 go_wp2
 go_ret
 exact ⟨by first|(with_reducible rfl)|(simp only [isEmpty_bne,Bool.not_not] <;> rfl)|rfl|(simp [*,errW_none,errW_some] <;> rfl),by repeat (first|(with_reducible first|exact HI0.out|apply IsS74.alloc|apply IsS74.drewN|apply IsS74.drew|apply IsS74.set_0|apply IsS74.set_1)|exact HI0.out),by repeat (first|(with_reducible first|exact HB.out|apply zl1|apply zl2|apply zl3|refine below_set ?_ (IsS74.ge HI0.out))|exact HB.out),by repeat (first|(with_reducible first|exact HK.out|apply KeepBut.set_|apply keep_drewN|apply keep_drew|apply keep_alloc)|exact HK.out)⟩

/-! ### pack_Reader_take: function 46 -/
def pack_Reader_take.f (s0_0:ByteArray) (s0_1:Int) (a1:Int):Option (ByteArray × Bool × ByteArray × Int):=if s0_1=0 then (if a1 > (s0_0.size:Int) then (some ((⟨#[]⟩:ByteArray),false,s0_0,2)) else (if 0≤a1 then (if a1≤(s0_0.size:Int) then (some (s0_0.extract 0 (a1:Int).toNat,true,s0_0.extract (a1:Int).toNat s0_0.size,s0_1)) else (none)) else (none))) else (some ((⟨#[]⟩:ByteArray),false,s0_0,s0_1))
set_option maxHeartbeats 8000000 in
set_option maxRecDepth 100000 in
theorem pack_Reader_take.calls (g:Nat) (s0_0:ByteArray) (s0_1:Int) (a1:Int) (r1:ByteArray) (r2:Bool) (r3:ByteArray) (r4:Int) (w0 w:World) (hI:IsS74 w0 w g s0_0 s0_1) (hB:Below w0.heap.size w0 w) (h:pack_Reader_take.f s0_0 s0_1 a1=some (r1,r2,r3,r4)) :
  Calls Tryd.prog 46 #[.pointer (some ⟨g,0,none⟩),.int .i64 a1] w fun e w'=>e=.returned (.tuple #[.string r1,.bool r2])∧IsS74 w0 w' g r3 r4∧Below w0.heap.size w0 w'∧KeepBut w w' g none:=by
 have HI0:=Aside0.mk hI
 have HK:=Aside0.mk (KeepBut.refl w g none)
 have HL:=Aside0.mk hB.size
 clear hI
 have HW0:=Aside0.mk hB.size
 have HB:=Aside0.mk hB
 clear hB
 have H:(if s0_1=0 then (if a1 > (s0_0.size:Int) then (some ((⟨#[]⟩:ByteArray),false,s0_0,2)) else (if 0≤a1 then (if a1≤(s0_0.size:Int) then (some (s0_0.extract 0 (a1:Int).toNat,true,s0_0.extract (a1:Int).toNat s0_0.size,s0_1)) else (none)) else (none))) else (some ((⟨#[]⟩:ByteArray),false,s0_0,s0_1)))=some (r1,r2,r3,r4):=h
 clear h
 by_cases c3:s0_1=0
 ·rw [if_pos c3] at H
  have c3b0:(s0_1 == 0)=true:=beq_iff_eq.mpr c3
  have c3b1:(s0_1 != 0)=false:=bne_eq_false_iff_eq.mpr c3
  clear c3
  by_cases c4:a1 > (s0_0.size:Int)
  ·rw [if_pos c4] at H
   have c4b0:decide ((s0_0.size:Int) < a1)=true:=decide_eq_true c4
   clear c4
   simp only [Option.some.injEq,Prod.mk.injEq] at H
   obtain ⟨rfl,rfl,rfl,rfl⟩:=H
   obtain ⟨HGz5,hgz5⟩:=HI0.out
   have hcz5_0:=cellS74_0 HGz5
   have hcz5_1:=cellS74_1 HGz5
   have hfz5_0:=blk_frozen HGz5 0
   have hfz5_1:=blk_frozen HGz5 1
   clear HGz5 hgz5
   go_enter Tryd.func46,Tryd.ntmps46
   go_wp2
   go_ret2
   exact ⟨by first|(with_reducible rfl)|(simp only [isEmpty_bne,Bool.not_not] <;> rfl)|rfl|(simp [*,errW_none,errW_some] <;> rfl),by repeat (first|(with_reducible first|exact HI0.out|apply IsS74.alloc|apply IsS74.drewN|apply IsS74.drew|apply IsS74.set_0|apply IsS74.set_1)|exact HI0.out),by repeat (first|(with_reducible first|exact HB.out|apply zl1|apply zl2|apply zl3|refine below_set ?_ (IsS74.ge HI0.out))|exact HB.out),by repeat (first|(with_reducible first|exact HK.out|apply KeepBut.set_|apply keep_drewN|apply keep_drew|apply keep_alloc)|exact HK.out)⟩
  ·rw [if_neg c4] at H
   have c4b0:decide ((s0_0.size:Int) < a1)=false:=decide_eq_false c4
   clear c4
   by_cases c6:0≤a1
   ·rw [if_pos c6] at H
    have c6b0:=eq_true c6
    have c6b1:decide (0≤a1)=true:=decide_eq_true c6
    clear c6
    by_cases c7:a1≤(s0_0.size:Int)
    ·rw [if_pos c7] at H
     have c7b0:=eq_true c7
     have c7b1:decide (a1≤(s0_0.size:Int))=true:=decide_eq_true c7
     clear c7
     have c8b0:=eq_true (of_decide_eq_true (by first|(with_reducible assumption)|assumption):0≤a1)
     have c9b0:=eq_true (of_decide_eq_true (by first|(with_reducible assumption)|assumption):a1≤(s0_0.size:Int))
     simp only [Option.some.injEq,Prod.mk.injEq] at H
     obtain ⟨rfl,rfl,rfl,rfl⟩:=H
     obtain ⟨HGz10,hgz10⟩:=HI0.out
     have hcz10_0:=cellS74_0 HGz10
     have hcz10_1:=cellS74_1 HGz10
     have hfz10_0:=blk_frozen HGz10 0
     have hfz10_1:=blk_frozen HGz10 1
     clear HGz10 hgz10
     go_enter Tryd.func46,Tryd.ntmps46
     go_wp2
     go_ret2
     exact ⟨by first|(with_reducible rfl)|(simp only [isEmpty_bne,Bool.not_not] <;> rfl)|rfl|(simp [*,errW_none,errW_some] <;> rfl),by repeat (first|(with_reducible first|exact HI0.out|apply IsS74.alloc|apply IsS74.drewN|apply IsS74.drew|apply IsS74.set_0|apply IsS74.set_1)|exact HI0.out),by repeat (first|(with_reducible first|exact HB.out|apply zl1|apply zl2|apply zl3|refine below_set ?_ (IsS74.ge HI0.out))|exact HB.out),by repeat (first|(with_reducible first|exact HK.out|apply KeepBut.set_|apply keep_drewN|apply keep_drew|apply keep_alloc)|exact HK.out)⟩
    ·rw [if_neg c7] at H
     exact absurd H (by simp)
   ·rw [if_neg c6] at H
    exact absurd H (by simp)
 ·rw [if_neg c3] at H
  have c3b0:(s0_1 == 0)=false:=beq_eq_false_iff_ne.mpr c3
  have c3b1:(s0_1 != 0)=true:=bne_iff_ne.mpr c3
  simp only [Option.some.injEq,Prod.mk.injEq] at H
  obtain ⟨rfl,rfl,rfl,rfl⟩:=H
  obtain ⟨HGz11,hgz11⟩:=HI0.out
  have hcz11_0:=cellS74_0 HGz11
  have hcz11_1:=cellS74_1 HGz11
  have hfz11_0:=blk_frozen HGz11 0
  have hfz11_1:=blk_frozen HGz11 1
  clear HGz11 hgz11
  go_enter Tryd.func46,Tryd.ntmps46
  go_wp2
  go_ret2
  exact ⟨by first|(with_reducible rfl)|(simp only [isEmpty_bne,Bool.not_not] <;> rfl)|rfl|(simp [*,errW_none,errW_some] <;> rfl),by repeat (first|(with_reducible first|exact HI0.out|apply IsS74.alloc|apply IsS74.drewN|apply IsS74.drew|apply IsS74.set_0|apply IsS74.set_1)|exact HI0.out),by repeat (first|(with_reducible first|exact HB.out|apply zl1|apply zl2|apply zl3|refine below_set ?_ (IsS74.ge HI0.out))|exact HB.out),by repeat (first|(with_reducible first|exact HK.out|apply KeepBut.set_|apply keep_drewN|apply keep_drew|apply keep_alloc)|exact HK.out)⟩

end Go.Proofs.YtljfichnlgfikaaDoor.PAll
