/- Printed walks of the functions that the laws reach: each function, what it computes, and that it does. No conditions. -/
import Derived.Test.YtnlfppfdfdopiaaDoorPAllx0
import Derived.Test.YtnlfppfdfdopiaaDoorPAllx5
import Derived.Test.YtnlfppfdfdopiaaDoorPAllx6
namespace Go.Proofs.YtnlfppfdfdopiaaDoor.PAll
open Go.RowKit Go.Proofs.YtnlfppfdfdopiaaDoor.XW Go.Proofs.YtnlfppfdfdopiaaDoor.XLib Go.Proofs.YtnlfppfdfdopiaaDoorW.PrintWords Go.Proofs.YtnlfppfdfdopiaaDoorW.PrintLast Go.Proofs.YtnlfppfdfdopiaaDoorW.PrintMore
attribute [local go_sem] max2_int min2_int max_two min_two max_three min_three max_four min_four   -- for this text's walks alone
set_option linter.unusedVariables false
set_option linter.unusedSimpArgs false

/-! ### factotumlaw19_lives: function 8 -/
set_option linter.unusedVariables false
set_option linter.unusedSimpArgs false
theorem ob_info:(Tryd.prog.info? 32).map (fun i=>(i.zero,i.size,i.bytes))=some (some (.agg #[.int .i64 0,.int .i64 0,.int .i64 0,.int .i64 0,.int .i64 0,.string (⟨#[]⟩:ByteArray)]),6,56):=by kernel_rfl
theorem R32_any {W:World} {base:Nat} {ok ok':Nat→Prop} {v:Value} {xs:List S32} (h:Kd.R k32 32 W base ok v xs) (hok:∀ k,v.ownBlock=some k→ok' k):Kd.R k32 32 W base ok' v xs:=by
 obtain ⟨_,inner,ho,hr⟩:=h
 exact ⟨hok,inner,ho,hr.imp_ (fun p c hp=>by have e:=k32_open (k32.K_of_M hp);subst e;exact k32_mkM _ _ _ p)⟩
theorem R32_keep {W W1:World} {base:Nat} {ok:Nat→Prop} {v:Value} {xs:List S32} (h:Kd.R k32 32 W base ok v xs) (hm:∀ k,v.ownBlock=some k→k < W.heap.size→W1.heap[k]?=W.heap[k]?):Kd.R k32 32 W1 base ok v xs :=
 R32_any (Kd.R_step (R32_any (ok':=fun k=>v.ownBlock=some k) h (fun _ h=>h)) (fun k hk hl=>hm k hk hl)) h.1
/-- what a box's method may change: the box, its row; a row that came is new -/
def ObF (W W':World) (g:Nat) (v v':Value):Prop:=W.heap.size≤W'.heap.size∧(∀ k,k < W.heap.size→k ≠ g→v.ownBlock ≠ some k→W'.heap[k]?=W.heap[k]?)∧∀ k,v'.ownBlock=some k→v.ownBlock=some k ∨ W.heap.size≤k
/-- a box: its row, mark, last number -/
def ObX (T:TypeId) (w0 W:World) (g:Nat) (v:Value) (xs:List S32) (m l:Int):Prop:=W.heap[g]?=some (.cells #[v,.int .i64 m,.int .i64 l] T (0,0))∧w0.heap.size≤g∧Kd.R k32 32 W w0.heap.size (fun _=>True) v xs
section
variable {w0 W W1 w:World} {g:Nat} {v v' v1:Value}
theorem ObF.refl (W:World) (g:Nat) (v:Value):ObF W W g v v:=⟨Nat.le_refl _,fun _ _ _ _=>rfl,fun _ h=>.inl h⟩
theorem ObF.below (h:ObF w W g v v') (hb:Below W.heap.size W W1):ObF w W1 g v v':=⟨Nat.le_trans h.1 hb.size,fun k hk hg hv=>(hb.block k (Nat.lt_of_lt_of_le hk h.1)).trans (h.2.1 k hk hg hv),h.2.2⟩
theorem ObF.put (h:ObF w W g v v') (i:Nat) (u:Value):ObF w (W.setCell ⟨g,i,none⟩ u) g v v':=⟨by rw [World.size_setCell];exact h.1,fun k hk hg hv=>(Below.heap_setCell W _ u k (fun e=>hg (by rw [e]))).trans (h.2.1 k hk hg hv),h.2.2⟩
theorem ObF.far (h:ObF w W g v v') {p:Addr} (hp:w.heap.size≤p.block) (u:Value):ObF w (W.setCell p u) g v v':=⟨by rw [World.size_setCell];exact h.1,fun k hk hg hv=>(Below.heap_setCell W _ u k (fun e=>Nat.not_le.2 hk (by rw [e];exact hp))).trans (h.2.1 k hk hg hv),h.2.2⟩
theorem ObF.newer (h:ObF w W g v v') {b:Nat} (k:W.grownBy W1 (some b)) (hb:w.heap.size≤b):ObF w W1 g v v':=⟨Nat.le_trans h.1 k.size,fun i hi hg hv=>(k.block i (Nat.lt_of_lt_of_le hi h.1) (fun e=>Nat.not_le.2 hi (by cases e;exact hb))).trans (h.2.1 i hi hg hv),h.2.2⟩
theorem ObF.grown (h:ObF w W g v v') (hg:W.grownBy W1 v'.ownBlock) (hat:v1.ownBlock=v'.ownBlock ∨ ∃ b,v1.ownBlock=some b∧W.heap.size≤b):ObF w W1 g v v1 :=
 ⟨Nat.le_trans h.1 hg.size,fun k hk hgk hv=>(hg.block k (Nat.lt_of_lt_of_le hk h.1) (fun e=>by
   rcases h.2.2 k e.symm with h1|h1
   ·exact hv h1
   ·omega)).trans (h.2.1 k hk hgk hv),fun k hk=>by
  rcases hat with e|⟨b,e,hb⟩
  ·exact h.2.2 k (by rw [← e];exact hk)
  ·rw [e] at hk;injection hk with hk;subst hk;exact .inr (Nat.le_trans h.1 hb)⟩
theorem ObF.swap (h:ObF w W g v v') (hn:∀ k,v1.ownBlock=some k→w.heap.size≤k):ObF w W g v v1:=⟨h.1,h.2.1,fun k hk=>.inr (hn k hk)⟩
theorem ObF.blk (h:ObF w W g v v') {a:Nat} {o:Obj} (hb:w.heap[a]?=some o) (hg:a ≠ g) (hv:v.ownBlock ≠ some a):W.heap[a]?=some o:=(h.2.1 a (Nat.lt_of_not_le (fun h'=>by rw [Array.getElem?_eq_none h'] at hb;cases hb)) hg hv).trans hb
theorem R32.obf {base:Nat} {ok:Nat→Prop} {u:Value} {ys:List S32} (hr:Kd.R k32 32 w base ok u ys) (h:ObF w W g v v') (hg:u.ownBlock ≠ some g) (hv:∀ k,u.ownBlock=some k→v.ownBlock ≠ some k):Kd.R k32 32 W base ok u ys :=
 R32_keep hr (fun k hk hl=>h.2.1 k hl (fun e=>hg (by rw [hk,e])) (hv k hk))
theorem R32.put {base:Nat} {ok:Nat→Prop} {u:Value} {ys:List S32} {t:TypeId} {cs:Array Value} (hr:Kd.R k32 32 W base ok u ys) (hb:W.heap[g]?=some (.cells cs t (0,0))) (ht:(32:Nat) ≠ t) (i:Nat) (x:Value):Kd.R k32 32 (W.setCell ⟨g,i,none⟩ x) base ok u ys :=
 R32_keep hr (fun k hk _=>Below.heap_setCell W ⟨g,i,none⟩ x k (fun e=>Kd.R_ne hr hb ht (by rw [hk,e])))
theorem ObX.below {T:TypeId} {xs:List S32} {m l:Int} (h:ObX T w0 W g v xs m l) (hb:Below W.heap.size W W1):ObX T w0 W1 g v xs m l:=⟨blk_below h.1 hb,h.2.1,Kd.R_below h.2.2 hb⟩
theorem ObX.drew {T:TypeId} {xs:List S32} {m l:Int} (h:ObX T w0 W g v xs m l):ObX T w0 W.drew g v xs m l:=⟨h.1,h.2.1,Kd.R_drew h.2.2⟩
theorem ObX.lt {T:TypeId} {xs:List S32} {m l:Int} (h:ObX T w0 W g v xs m l):g < W.heap.size:=blk_lt h.1
theorem ObX.obf {T:TypeId} {xs:List S32} {m l:Int} {g2:Nat} {u u':Value} (h:ObX T w0 w g v xs m l) (hf:ObF w W g2 u u') (h1:g ≠ g2) (h2:u.ownBlock ≠ some g) (h3:v.ownBlock ≠ some g2) (h4:∀ k,v.ownBlock=some k→u.ownBlock ≠ some k):ObX T w0 W g v xs m l :=
 ⟨hf.blk h.1 h1 h2,h.2.1,R32.obf h.2.2 hf h3 h4⟩
theorem ObX.ne {T:TypeId} {xs:List S32} {m l:Int} (h:ObX T w0 W g v xs m l) (hT:(32:Nat) ≠ T):v.ownBlock ≠ some g:=fun e=>Kd.R_ne h.2.2 h.1 hT e.symm
end
theorem R32_one {W:World} {B:Nat} {t:TypeId} {p:S32} (hb:W.heap[B]?=some (.cells #[.int .i64 p.f0,.int .i64 p.f1,.int .i64 p.f2,.int .i64 p.f3.f0,.int .i64 p.f3.f1,.string p.f3.f2] t (0,0))):ReadsRow (fun (x:S32) cs=>cs=[.int .i64 x.f0,.int .i64 x.f1,.int .i64 x.f2,.int .i64 x.f3.f0,.int .i64 x.f3.f1,.string x.f3.f2]) 6 W (some ⟨B,0,none⟩) 1 [p]:=by
 refine ⟨rfl,by omega,fun _=>⟨⟨B,0,none⟩,rfl,fun j q hj=>?_⟩⟩
 have h0:j=0:=by
  rcases j with _|j
  ·rfl
  ·simp at hj
 subst h0
 have hq:q=p:=by simpa using hj.symm
 subst hq
 refine ⟨_,rfl,rfl,fun i u hu=>?_⟩
 have:=blk_cell hb i
 rw [Nat.zero_mul,Nat.zero_add,add_plain,this]
 simpa using hu
section
variable {ops:Array Oper} {o:Oper} {a:Act} {Q:Exit→Act→World→Prop} {Kc:Act→World→Prop}
theorem R32_app {w0 W:World} (base:Nat) (hgd:o.guard=none) (s x:Operand) (ho:o.op=.call { callee:=.builtin .append,args:=#[s,x],argTypes:=#[27,27] })
  (v:Value) (xs:List S32) (p:S32) (B:Nat) (t:TypeId) (hs:a.eval s=v) (hx:a.eval x=.slice (some ⟨B,0,none⟩) 1 1) (hb:W.heap[B]?=some (.cells #[.int .i64 p.f0,.int .i64 p.f1,.int .i64 p.f2,.int .i64 p.f3.f0,.int .i64 p.f3.f1,.string p.f3.f2] t (0,0)))
  (HO:Kd.R k32 32 W base (fun _=>True) v xs) (HB:Below base w0 W) (hbase:base≤W.heap.size) (hl:xs.length < 1000000000000)
  (h:∀ v1 w1,Kd.R k32 32 w1 base (fun _=>True) v1 (xs ++ [p])→Below base w0 w1→W.grownBy w1 v.ownBlock→(v1.ownBlock=v.ownBlock ∨ ∃ b,v1.ownBlock=some b∧W.heap.size≤b)→Kc (a.put o.dst v1) w1) :
  if Region.wanted o (yielded ops a.tmps)=true then Oper.wp Tryd.prog o a W Kc Q else Kc (a.put o.dst undef) W :=
 Kd.R_append_rows_step k32 (Rr:=fun (x:S32) cs=>cs=[.int .i64 x.f0,.int .i64 x.f1,.int .i64 x.f2,.int .i64 x.f3.f0,.int .i64 x.f3.f1,.string x.f3.f2]) base (by simp [Region.wanted,hgd]) s x 27 32 (.agg #[.int .i64 0,.int .i64 0,.int .i64 0,.int .i64 0,.int .i64 0,.string (⟨#[]⟩:ByteArray)]) 56 ho Tryd.underlying27 ob_info rfl (by decide) (by omega) v xs [p] (some ⟨B,0,none⟩) 1 1 (fun _=>True) (fun _=>False) hs hx HO (R32_one hb) (fun x cs e=>by subst e;exact k32_mkM _ _ _ x) (fun _ h=>h.elim) (fun _ _=>trivial) HB hbase (by omega) h
end
theorem outbox_New.bx (w0 w:World) (hB:Below w0.heap.size w0 w):Calls Tryd.prog 10 #[] w fun e w'=>∃ g,e=.returned (.pointer (some ⟨g,0,none⟩))∧ObX 56 w0 w' g (.slice none 0 0) [] 0 0∧Below w0.heap.size w0 w'∧Below w.heap.size w w'∧w.heap.size≤g:=by
 have hu56:=Tryd.underlying56
 have HB:=Aside0.mk hB
 clear hB
 go_enter Tryd.func10,Tryd.ntmps10
 go_wp2_with ((with_reducible refine gate_dst (N:=2) rfl ?_);refine box_event ?hg (N:=2) ?hd (cs:=#[.slice none 0 0,.int .i64 0,.int .i64 0]) (t:=56) ?hr ?_;(case hd=>rfl);(case hg=>rfl);(case hr=>first|(go_simp;done)|(go_simp;rfl));intro g hg w1 hbox hb;have BX:=Aside0.mk (hbox);have HW:=Aside0.mk (hb);have HG:=Aside0.mk (show w.heap.size≤g by rw [hg];exact Nat.le_refl _);clear hb hbox hg;)
 go_ret
 exact ⟨g,rfl,⟨BX.out,Nat.le_trans HB.out.size HG.out,Kd.R_nil _ _ _ _ _⟩,below_step HB.out HW.out,HW.out,HG.out⟩
theorem outbox_Box_Mark.nil_ (w:World):Calls Tryd.prog 14 #[.pointer none] w fun e w'=>e=.returned (.int .i64 0)∧w=w':=by
 go_enter Tryd.func14,Tryd.ntmps14
 go_wp2
 go_ret
 exact ⟨rfl,rfl⟩
theorem outbox_Box_Mark.bx (w0 w:World) (g:Nat) (v:Value) (xs:List S32) (m l:Int) (hX:ObX 56 w0 w g v xs m l):Calls Tryd.prog 14 #[.pointer (some ⟨g,0,none⟩)] w fun e w'=>e=.returned (.int .i64 m)∧w=w':=by
 have hc:w.cell? ⟨g,1,none⟩=some (.int .i64 m):=(blk_cell hX.1 1).trans rfl
 clear hX
 go_enter Tryd.func14,Tryd.ntmps14
 go_wp2
 go_ret
 exact ⟨rfl,rfl⟩
theorem outbox_Box_Last.nil_ (w:World):Calls Tryd.prog 15 #[.pointer none] w fun e w'=>e=.returned (.int .i64 0)∧w=w':=by
 go_enter Tryd.func15,Tryd.ntmps15
 go_wp2
 go_ret
 exact ⟨rfl,rfl⟩
theorem outbox_Box_Last.bx (w0 w:World) (g:Nat) (v:Value) (xs:List S32) (m l:Int) (hX:ObX 56 w0 w g v xs m l):Calls Tryd.prog 15 #[.pointer (some ⟨g,0,none⟩)] w fun e w'=>e=.returned (.int .i64 l)∧w=w':=by
 have hc:w.cell? ⟨g,2,none⟩=some (.int .i64 l):=(blk_cell hX.1 2).trans rfl
 clear hX
 go_enter Tryd.func15,Tryd.ntmps15
 go_wp2
 go_ret
 exact ⟨rfl,rfl⟩
theorem outbox_Box_Len.nil_ (w:World):Calls Tryd.prog 18 #[.pointer none] w fun e w'=>e=.returned (.int .i64 0)∧w=w':=by
 go_enter Tryd.func18,Tryd.ntmps18
 go_wp2
 go_ret
 exact ⟨rfl,rfl⟩
theorem outbox_Box_Len.bx (w0 w:World) (g:Nat) (v:Value) (xs:List S32) (m l:Int) (hX:ObX 56 w0 w g v xs m l):Calls Tryd.prog 18 #[.pointer (some ⟨g,0,none⟩)] w fun e w'=>e=.returned (.int .i64 (xs.length:Int))∧w=w':=by
 obtain ⟨A,cc,rfl⟩:=Kd.R_slice hX.2.2
 have hc:w.cell? ⟨g,0,none⟩=some (.slice A xs.length cc):=(blk_cell hX.1 0).trans rfl
 clear hX
 go_enter Tryd.func18,Tryd.ntmps18
 go_wp2
 go_ret
 exact ⟨rfl,rfl⟩
set_option maxHeartbeats 8000000 in
set_option maxRecDepth 100000 in
theorem outbox_From1.clo (x:S32) (q:Int) (ga:Nat) (w:World) (hc:w.cell? ⟨ga,0,none⟩=some (.int .i64 q)) :
  Calls Tryd.prog 31 #[.agg #[.int .i64 x.f0,.int .i64 x.f1,.int .i64 x.f2,.int .i64 x.f3.f0,.int .i64 x.f3.f1,.string x.f3.f2],.pointer (some ⟨ga,0,none⟩)] w fun e w'=>e=.returned (.bool (decide (x.f0 > q)))∧Below w.heap.size w w':=by
 have hu32:=Tryd.underlying32
 have HC:=Aside0.mk hc
 clear hc
 go_enter Tryd.func31,Tryd.ntmps31
 go_wp2_with ((with_reducible refine gate_dst (N:=2) rfl ?_);refine box_event ?hg (N:=2) ?hd (cs:=#[.int .i64 x.f0,.int .i64 x.f1,.int .i64 x.f2,.int .i64 x.f3.f0,.int .i64 x.f3.f1,.string x.f3.f2]) (t:=32) ?hr ?_;(case hd=>rfl);(case hg=>rfl);(case hr=>first|(go_simp;done)|(go_simp;rfl));intro g hg w1 hbox hb;have BX:=Aside0.mk (hbox);have HW:=Aside0.mk (hb);replace HC:=Aside0.mk ((hb.cell (World.block_lt_of_cell? w _ HC.out)).trans HC.out);clear hb hbox hg;have hc1:w1.cell? ⟨ga,0,none⟩=some (.int .i64 q):=HC.out;have hc2:w1.cell? ⟨g,0,none⟩=some (.int .i64 x.f0):=(blk_cell BX.out 0).trans rfl)
 go_ret
 exact ⟨rfl,HW.out⟩
set_option maxHeartbeats 8000000 in
set_option maxRecDepth 100000 in
theorem outbox_Ack1.clo (x:S32) (q:Int) (ga:Nat) (w:World) (hc:w.cell? ⟨ga,0,none⟩=some (.int .i64 q)) :
  Calls Tryd.prog 29 #[.agg #[.int .i64 x.f0,.int .i64 x.f1,.int .i64 x.f2,.int .i64 x.f3.f0,.int .i64 x.f3.f1,.string x.f3.f2],.pointer (some ⟨ga,0,none⟩)] w fun e w'=>e=.returned (.bool (decide (x.f0≤q)))∧Below w.heap.size w w':=by
 have hu32:=Tryd.underlying32
 have HC:=Aside0.mk hc
 clear hc
 go_enter Tryd.func29,Tryd.ntmps29
 go_wp2_with ((with_reducible refine gate_dst (N:=2) rfl ?_);refine box_event ?hg (N:=2) ?hd (cs:=#[.int .i64 x.f0,.int .i64 x.f1,.int .i64 x.f2,.int .i64 x.f3.f0,.int .i64 x.f3.f1,.string x.f3.f2]) (t:=32) ?hr ?_;(case hd=>rfl);(case hg=>rfl);(case hr=>first|(go_simp;done)|(go_simp;rfl));intro g hg w1 hbox hb;have BX:=Aside0.mk (hbox);have HW:=Aside0.mk (hb);replace HC:=Aside0.mk ((hb.cell (World.block_lt_of_cell? w _ HC.out)).trans HC.out);clear hb hbox hg;have hc1:w1.cell? ⟨ga,0,none⟩=some (.int .i64 q):=HC.out;have hc2:w1.cell? ⟨g,0,none⟩=some (.int .i64 x.f0):=(blk_cell BX.out 0).trans rfl)
 go_ret
 exact ⟨rfl,HW.out⟩
def ob_ix (p:S32→Bool):List S32→Nat→Int
 | [],_=>-1
 | x :: l,i=>if p x=true then (i:Int) else ob_ix p l (i + 1)
theorem ob_rd (l:List S32) (i:Nat) (h:i < l.length):rd_T32 l (i:Int)=l[i]:=by
 unfold rd_T32;rw [Int.toNat_natCast,List.getD_eq_getElem?_getD,List.getElem?_eq_getElem h];rfl
set_option maxHeartbeats 8000000 in
set_option maxRecDepth 100000 in
theorem ob_index (F:Nat) (p:S32→Bool) (eg:∀ args w,(callFunc F args).run Tryd.prog w=.ok (.enter F args) w) (ga:Nat) (A0:Option Addr) (c0:Nat) (l0:List S32) (w:World) (hr0:Kd.C k32 w A0 l0.length l0) (hlen:l0.length≤1000000000000)
  (hp:∀ x W,Below w.heap.size w W→Calls Tryd.prog F #[.agg #[.int .i64 x.f0,.int .i64 x.f1,.int .i64 x.f2,.int .i64 x.f3.f0,.int .i64 x.f3.f1,.string x.f3.f2],.pointer (some ⟨ga,0,none⟩)] W fun e w'=>e=.returned (.bool (p x))∧Below W.heap.size W w') :
  Calls Tryd.prog 30 #[.slice A0 l0.length c0,.func (.func F) #[] #[.pointer (some ⟨ga,0,none⟩)]] w fun e w'=>e=.returned (.int .i64 (ob_ix p l0 0))∧Below w.heap.size w w':=by
 have huI:=Tryd.underlying32
 obtain ⟨r,hr⟩:∃ r,ob_ix p l0 0=r:=⟨_,rfl⟩
 rw [hr]
 have HR0:=Aside0.mk hr0
 have HL:=Aside0.mk hlen
 have HP:=Aside0.mk hp
 have HB:=Aside0.mk (Below.refl w.heap.size w)
 have H':=Aside0.mk hr
 clear hr0 hp hlen hr
 go_enter Tryd.func30,Tryd.ntmps30
 go_wp2
 go_loopg [8] l0.length (fun kq v8 w'=>∃ (i:Nat),i≤l0.length∧l0.length - i≤kq∧v8=.int .i64 i∧Aside0 (ob_ix p (l0.drop i) i=r)∧Aside0 (Below w.heap.size w w'))
 case atStart=>exact ⟨0,Nat.zero_le _,Nat.le_refl _,rfl,H',HB⟩
 case round =>
  clear H' HB
  obtain ⟨i,hi,hk,rfl,HA,HB⟩:=hrel
  by_cases hlt:i < l0.length
  ·have h1:=HA.out
   have hd:=ob_rd l0 i hlt
   rw [List.drop_eq_getElem_cons hlt,← hd] at h1
   simp only [ob_ix] at h1
   clear HA hd
   obtain ⟨b,hb1⟩:∃ b,p (rd_T32 l0 (i:Int))=b:=⟨_,rfl⟩
   rw [hb1] at h1
   have HB1:=Aside0.mk hb1
   clear hb1
   obtain ⟨ad,e1,x0,x1,x2,x3,x4,x5⟩:=at_T32 HR0.out (i:Int) (by omega) (by omega)
   cases e1
   simp only [Int.toNat_natCast] at x0 x1 x2 x3 x4 x5
   replace x0:=(HB.out.cell (World.block_lt_of_cell? w _ x0)).trans x0
   replace x1:=(HB.out.cell (World.block_lt_of_cell? w _ x1)).trans x1
   replace x2:=(HB.out.cell (World.block_lt_of_cell? w _ x2)).trans x2
   replace x3:=(HB.out.cell (World.block_lt_of_cell? w _ x3)).trans x3
   replace x4:=(HB.out.cell (World.block_lt_of_cell? w _ x4)).trans x4
   replace x5:=(HB.out.cell (World.block_lt_of_cell? w _ x5)).trans x5
   have c1:decide ((i:Int) < (l0.length:Int))=true:=decide_eq_true (by omega)
   have c2:decide (0≤(i:Int))=true:=decide_eq_true (by omega)
   have c3:decide (i < l0.length)=true:=decide_eq_true hlt
   have p3:=eq_true hlt
   have q3:=eq_true (show (i:Int) < (l0.length:Int) by omega)
   have HI:=Aside0.mk hlt
   have hi64:(i:Int) < 1000000000000:=by have:=HL.out;omega
   clear hi hlt
   have HKq:=Aside0.mk hk
   clear hk
   cases b with
   | true =>
    have h1:(i:Int)=r:=by simpa using h1
    subst h1
    go_wp2_with (go_at_fn F;refine (show Calls Tryd.prog F _ _ fun e w'=>e=.returned (.bool _)∧Below _ _ w' from HB1.out ▸ HP.out (rd_T32 l0 (i:Int)) _ HB.out).mono ?_;rintro e w8 ⟨rfl,hb⟩;have n0_:=Aside0.mk (below_step HB.out hb);clear HB;have HB:=n0_;clear n0_ hb)
    go_ret
    exact ⟨rfl,HB.out⟩
   | false =>
    have H1:=Aside0.mk (show ob_ix p (l0.drop (i + 1)) (i + 1)=r from by simpa using h1)
    clear h1
    go_wp2_with (go_at_fn F;refine (show Calls Tryd.prog F _ _ fun e w'=>e=.returned (.bool _)∧Below _ _ w' from HB1.out ▸ HP.out (rd_T32 l0 (i:Int)) _ HB.out).mono ?_;rintro e w8 ⟨rfl,hb⟩;have n0_:=Aside0.mk (below_step HB.out hb);clear HB;have HB:=n0_;clear n0_ hb)
    go_roundg (l0.length - (i + 1))
    case measure=>have:=HI.out;have:=HKq.out;omega
    case rel=>exact ⟨i + 1,by have:=HI.out;omega,Nat.le_refl _,by go_num,H1,HB⟩
  ·have hie:i=l0.length:=by omega
   have h1:=HA.out
   rw [List.drop_eq_nil_of_le (by omega)] at h1
   have h2:-1=r:=by simpa [ob_ix] using h1
   subst h2
   have c1:decide ((i:Int) < (l0.length:Int))=false:=decide_eq_false (by omega)
   clear hi hk HA h1 hlt
   subst hie
   go_wp2
   go_ret
   exact ⟨rfl,HB.out⟩
set_option maxHeartbeats 8000000 in
set_option maxRecDepth 100000 in
theorem outbox_Box_Add.ok_ (k:Nat) (flow step kd n:Int) (s:ByteArray) (xs:List S32) (m l:Int) (g:Nat) (v:Value) (t1 t2:ByteArray) (t3:Int) (w0 w:World) (hX:ObX 56 w0 w g v xs m l) (hB:Below w0.heap.size w0 w) (hl:xs.length < 1000000000000) (h:outbox_Write.f k (wrap64 (l + 1)) flow step kd n s=some (t1,t2,0)) :
  Calls Tryd.prog 12 #[.pointer (some ⟨g,0,none⟩),.int .i64 flow,.int .i64 step,.agg #[.int .i64 kd,.int .i64 n,.string s]] w fun e w'=>∃ v',e=.returned (.tuple #[.int .i64 (wrap64 (l + 1)),.int .i64 0])∧ObX 56 w0 w' g v' (xs ++ [⟨wrap64 (l + 1),flow,step,⟨kd,n,s⟩⟩]) m (wrap64 (l + 1))∧Below w0.heap.size w0 w'∧ObF w w' g v v':=by
 have hu56:=Tryd.underlying56
 have hu32:=Tryd.underlying32
 have hu30:=Tryd.underlying30
 have hu27:=Tryd.underlying27
 have BG:=Aside0.mk hX.1
 have HGE:=Aside0.mk hX.2.1
 have HO:=Aside0.mk hX.2.2
 have HB:=Aside0.mk hB
 have HF:=Aside0.mk (ObF.refl w g v)
 have HL:=Aside0.mk hl
 have HA:=Aside0.mk h
 clear hX hB hl h
 go_enter Tryd.func12,Tryd.ntmps12
 go_wp2_with ((with_reducible refine gate_dst (N:=7) rfl ?_);refine box_event ?hg (N:=7) ?hd (cs:=#[.int .i64 kd,.int .i64 n,.string s]) (t:=30) ?hr ?_;(case hd=>rfl);(case hg=>rfl);(case hr=>first|(go_simp;done)|(go_simp;rfl));intro gv hg w1 hbox hb;have BV:=Aside0.mk (hbox);replace HO:=Aside0.mk (Kd.R_below HO.out hb);replace HB:=Aside0.mk (below_step HB.out hb);have NV:=Aside0.mk (show gv ≠ g by rw [hg];exact Nat.ne_of_gt (blk_lt BG.out));replace BG:=Aside0.mk (blk_below BG.out hb);have WV:=Aside0.mk (show w.heap.size≤gv by rw [hg];exact HF.out.1);replace HF:=Aside0.mk (HF.out.below hb);have LV:=Aside0.mk (show gv < w1.heap.size from blk_lt hbox);clear hb hbox hg;)
 have cg:=(blk_cell BG.out 2).trans rfl
 have cv0:=(blk_cell BV.out 0).trans rfl
 have cv1:=(blk_cell BV.out 1).trans rfl
 have cv2:=(blk_cell BV.out 2).trans rfl
 go_region_held3 (fun w'=>w'.cell? ⟨g,2,none⟩=some (.int .i64 l)∧w'.cell? ⟨gv,0,none⟩=some (.int .i64 kd)∧w'.cell? ⟨gv,1,none⟩=some (.int .i64 n)∧w'.cell? ⟨gv,2,none⟩=some (.string s)) (first|exact ⟨(blk_cell BG.out 2).trans rfl,(blk_cell BV.out 0).trans rfl,(blk_cell BV.out 1).trans rfl,(blk_cell BV.out 2).trans rfl⟩|exact ⟨(blk_cell (blk_drew (blk_alloc BG.out _)) 2).trans rfl,(blk_cell (blk_drew (blk_alloc BV.out _)) 0).trans rfl,(blk_cell (blk_drew (blk_alloc BV.out _)) 1).trans rfl,(blk_cell (blk_drew (blk_alloc BV.out _)) 2).trans rfl⟩) (fail)
 simp only [i64_w]
 generalize hw2:World.drew (w1.alloc (Obj.cells #[.int .i64 (wrap64 (l + 1)),.int .i64 flow,.int .i64 step,.int .i64 kd,.int .i64 n,.string s] 32))=w2
 generalize hgm:w1.heap.size=gm
 have hb2:Below w1.heap.size w1 w2:=by rw [← hw2];exact below_drew1 (below_alloc (Below.refl _ _) _)
 have BM:=Aside0.mk (show w2.heap[gm]?=some (.cells #[.int .i64 (wrap64 (l + 1)),.int .i64 flow,.int .i64 step,.int .i64 kd,.int .i64 n,.string s] 32 (0,0)) by rw [← hw2,← hgm];exact blk_drew (blk_new w1 _))
 have NM:=Aside0.mk (show gm ≠ g by rw [← hgm];exact Nat.ne_of_gt (blk_lt BG.out))
 have WM:=Aside0.mk (show w.heap.size≤gm by rw [← hgm];exact HF.out.1)
 replace BG:=Aside0.mk (blk_below BG.out hb2)
 replace HO:=Aside0.mk (Kd.R_below HO.out hb2)
 replace HB:=Aside0.mk (below_step HB.out hb2)
 replace HF:=Aside0.mk (HF.out.below hb2)
 clear cg cv0 cv1 cv2 hw2 hgm hb2
 have c0:w2.cell? ⟨gm,0,none⟩=some (.int .i64 (wrap64 (l + 1))):=(blk_cell BM.out 0).trans rfl
 have c1:w2.cell? ⟨gm,1,none⟩=some (.int .i64 flow):=(blk_cell BM.out 1).trans rfl
 have c2:w2.cell? ⟨gm,2,none⟩=some (.int .i64 step):=(blk_cell BM.out 2).trans rfl
 have c3:w2.cell? ⟨gm,3,none⟩=some (.int .i64 kd):=(blk_cell BM.out 3).trans rfl
 have c4:w2.cell? ⟨gm,4,none⟩=some (.int .i64 n):=(blk_cell BM.out 4).trans rfl
 have c5:w2.cell? ⟨gm,5,none⟩=some (.string s):=(blk_cell BM.out 5).trans rfl
 have nm:=NM.out
 have nm':=Ne.symm nm
 go_wp2_with (go_at_call 22;(with_reducible refine (outbox_Write.calls k (wrap64 (l + 1)) flow step kd n s t1 t2 0 _ HA.out).mono ?_);rintro e w3 ⟨rfl,hb⟩;replace BG:=Aside0.mk (blk_below BG.out hb);replace BM:=Aside0.mk (blk_below BM.out hb);replace HO:=Aside0.mk (Kd.R_below HO.out hb);replace HB:=Aside0.mk (below_step HB.out hb);replace HF:=Aside0.mk (HF.out.below hb);clear hb c0 c1 c2 c3 c4 c5;have c0:w3.cell? ⟨gm,0,none⟩=some (.int .i64 (wrap64 (l + 1))):=(blk_cell BM.out 0).trans rfl;have c1:w3.cell? ⟨gm,1,none⟩=some (.int .i64 flow):=(blk_cell BM.out 1).trans rfl;have c2:w3.cell? ⟨gm,2,none⟩=some (.int .i64 step):=(blk_cell BM.out 2).trans rfl;have c3:w3.cell? ⟨gm,3,none⟩=some (.int .i64 kd):=(blk_cell BM.out 3).trans rfl;have c4:w3.cell? ⟨gm,4,none⟩=some (.int .i64 n):=(blk_cell BM.out 4).trans rfl;have c5:w3.cell? ⟨gm,5,none⟩=some (.string s):=(blk_cell BM.out 5).trans rfl;have cg0:w3.cell? ⟨g,0,none⟩=some v:=(blk_cell BG.out 0).trans rfl;have cg2:w3.cell? ⟨g,2,none⟩=some (.int .i64 l):=(blk_cell BG.out 2).trans rfl;have zg0:w3.frozen? ⟨g,0,none⟩=false:=blk_frozen BG.out 0;have zg2:w3.frozen? ⟨g,2,none⟩=false:=blk_frozen BG.out 2)
 generalize hw4:World.setCell w3 ⟨g,2,none⟩ (.int .i64 (wrap64 (l + 1)))=w4
 have n0_:=Aside0.mk (show w4.heap[g]?=some (.cells #[v,.int .i64 m,.int .i64 (wrap64 (l + 1))] 56 (0,0)) by rw [← hw4];simpa using blk_set BG.out 2 (.int .i64 (wrap64 (l + 1))))
 have n1_:=Aside0.mk (show Kd.R k32 32 w4 w0.heap.size (fun _=>True) v xs by rw [← hw4];exact R32.put HO.out BG.out (by decide) 2 _)
 have n2_:=Aside0.mk (show Below w0.heap.size w0 w4 by rw [← hw4];exact below_set HB.out HGE.out)
 have n3_:=Aside0.mk (show ObF w w4 g v v by rw [← hw4];exact HF.out.put 2 _)
 have n4_:=Aside0.mk (show w4.heap[gm]?=some (.cells #[.int .i64 (wrap64 (l + 1)),.int .i64 flow,.int .i64 step,.int .i64 kd,.int .i64 n,.string s] 32 (0,0)) by rw [← hw4];exact blk_far BM.out NM.out _)
 clear BG HO HB HF BM hw4 c0 c1 c2 c3 c4 c5 cg0 cg2 zg0 zg2
 have BG:=n0_
 have HO:=n1_
 have HB:=n2_
 have HF:=n3_
 have BM:=n4_
 clear n0_ n1_ n2_ n3_ n4_
 have c0:w4.cell? ⟨gm,0,none⟩=some (.int .i64 (wrap64 (l + 1))):=(blk_cell BM.out 0).trans rfl
 have c1:w4.cell? ⟨gm,1,none⟩=some (.int .i64 flow):=(blk_cell BM.out 1).trans rfl
 have c2:w4.cell? ⟨gm,2,none⟩=some (.int .i64 step):=(blk_cell BM.out 2).trans rfl
 have c3:w4.cell? ⟨gm,3,none⟩=some (.int .i64 kd):=(blk_cell BM.out 3).trans rfl
 have c4:w4.cell? ⟨gm,4,none⟩=some (.int .i64 n):=(blk_cell BM.out 4).trans rfl
 have c5:w4.cell? ⟨gm,5,none⟩=some (.string s):=(blk_cell BM.out 5).trans rfl
 have cg0:w4.cell? ⟨g,0,none⟩=some v:=(blk_cell BG.out 0).trans rfl
 have zg0:w4.frozen? ⟨g,0,none⟩=false:=blk_frozen BG.out 0
 have hg4:g < w4.heap.size:=blk_lt BG.out
 have hm4:gm < w4.heap.size:=blk_lt BM.out
 have NR:=Aside0.mk (show some g ≠ v.ownBlock from Kd.R_ne HO.out BG.out (by decide))
 go_region_law (refine R32_app (w0:=w0) w0.heap.size rfl (.tmp 45) (.tmp 47) rfl v xs (⟨wrap64 (l + 1),flow,step,⟨kd,n,s⟩⟩:S32) w4.heap.size 32 (by first|rfl|(simp [Act.eval,Act.put];done)) (by first|rfl|(simp [Act.eval,Act.put];done)) (by first|exact blk_drew (blk_new w4 _)|exact blk_new w4.drew _|exact blk_new w4 _) (by (with_reducible repeat (first|apply zk1|apply zk2|apply zk3));exact HO.out) (by repeat (first|(with_reducible first|exact HB.out|apply zl1|apply zl2|apply zl3)|exact HB.out)) ?aS HL.out ?_;(case aS=>simp;exact Nat.le_succ_of_le HB.out.size);intro v1 w6 ho hb hg hat;obtain ⟨A6,c6,e6⟩:=Kd.R_slice ho;subst e6;have n0_:=Aside0.mk (show w6.heap[g]?=some (.cells #[v,.int .i64 m,.int .i64 (wrap64 (l + 1))] 56 (0,0)) from blk_grown (by first|exact blk_drew (blk_alloc BG.out _)|exact blk_alloc (blk_drew BG.out) _|exact blk_alloc BG.out _) hg NR.out);have n1_:=Aside0.mk (show ObF w w6 g v _ from (HF.out.below (by repeat (first|(with_reducible first|exact Below.refl _ _|apply zl1|apply zl2|apply zl3)|exact Below.refl _ _))).grown hg hat);have n2_:=Aside0.mk ho;have n3_:=Aside0.mk hb;clear hg hat ho hb cg0 zg0 BG HF HO HB;have BG:=n0_;have HF:=n1_;have HO:=n2_;have HB:=n3_;clear n0_ n1_ n2_ n3_;have cg0:w6.cell? ⟨g,0,none⟩=some v:=(blk_cell BG.out 0).trans rfl;have zg0:w6.frozen? ⟨g,0,none⟩=false:=blk_frozen BG.out 0)
 all_goals (have n0_:=Aside0.mk (show (w6.setCell ⟨g,0,none⟩ (Value.slice A6 (xs.length + 1) c6)).heap[g]?=some (.cells #[.slice A6 (xs.length + 1) c6,.int .i64 m,.int .i64 (wrap64 (l + 1))] 56 (0,0)) by simpa using blk_set BG.out 0 (.slice A6 (xs.length + 1) c6));have n1_:=Aside0.mk (show Kd.R k32 32 (w6.setCell ⟨g,0,none⟩ (Value.slice A6 (xs.length + 1) c6)) w0.heap.size (fun _=>True) (.slice A6 (xs.length + 1) c6) (xs ++ [⟨wrap64 (l + 1),flow,step,⟨kd,n,s⟩⟩]) by have:=R32.put HO.out BG.out (by decide) 0 (Value.slice A6 (xs.length + 1) c6);rw [List.length_append,List.length_singleton] at this;exact this);have n2_:=Aside0.mk (show ObF w (w6.setCell ⟨g,0,none⟩ (Value.slice A6 (xs.length + 1) c6)) g v (.slice A6 (xs.length + 1) c6) by have:=HF.out.put 0 (Value.slice A6 (xs.length + 1) c6);rw [List.length_append,List.length_singleton] at this;exact this);have n3_:=Aside0.mk (show Below w0.heap.size w0 (w6.setCell ⟨g,0,none⟩ (Value.slice A6 (xs.length + 1) c6)) from below_set HB.out HGE.out);clear BG HO HF HB cg0 zg0 c0 c1 c2 c3 c4 c5;generalize World.setCell w6 ⟨g,0,none⟩ (Value.slice A6 (xs.length + 1) c6)=w7 at *;have cg2:w7.cell? ⟨g,2,none⟩=some (.int .i64 (wrap64 (l + 1))):=(blk_cell n0_.out 2).trans rfl;go_wp2;go_ret2;exact ⟨_,rfl,⟨n0_.out,HGE.out,n1_.out⟩,n3_.out,n2_.out⟩)
set_option maxHeartbeats 8000000 in
set_option maxRecDepth 100000 in
theorem outbox_Box_Add.no_ (k:Nat) (flow step kd n:Int) (s:ByteArray) (xs:List S32) (m l:Int) (g:Nat) (v:Value) (t1 t2:ByteArray) (t3:Int) (w0 w:World) (hX:ObX 56 w0 w g v xs m l) (hB:Below w0.heap.size w0 w) (hl:xs.length < 1000000000000) (h:outbox_Write.f k (wrap64 (l + 1)) flow step kd n s=some (t1,t2,t3)) (hne:t3 ≠ 0) :
  Calls Tryd.prog 12 #[.pointer (some ⟨g,0,none⟩),.int .i64 flow,.int .i64 step,.agg #[.int .i64 kd,.int .i64 n,.string s]] w fun e w'=>∃ v',e=.returned (.tuple #[.int .i64 0,.int .i64 t3])∧ObX 56 w0 w' g v' xs m l∧Below w0.heap.size w0 w'∧ObF w w' g v v':=by
 have hu56:=Tryd.underlying56
 have hu32:=Tryd.underlying32
 have hu30:=Tryd.underlying30
 have hu27:=Tryd.underlying27
 have BG:=Aside0.mk hX.1
 have HGE:=Aside0.mk hX.2.1
 have HO:=Aside0.mk hX.2.2
 have HB:=Aside0.mk hB
 have HF:=Aside0.mk (ObF.refl w g v)
 have HL:=Aside0.mk hl
 have HA:=Aside0.mk h
 clear hX hB hl h
 have hn1:(t3 != 0)=true:=bne_iff_ne.mpr hne
 have hn2:(t3 == 0)=false:=beq_eq_false_iff_ne.mpr hne
 clear hne
 go_enter Tryd.func12,Tryd.ntmps12
 go_wp2_with ((with_reducible refine gate_dst (N:=7) rfl ?_);refine box_event ?hg (N:=7) ?hd (cs:=#[.int .i64 kd,.int .i64 n,.string s]) (t:=30) ?hr ?_;(case hd=>rfl);(case hg=>rfl);(case hr=>first|(go_simp;done)|(go_simp;rfl));intro gv hg w1 hbox hb;have BV:=Aside0.mk (hbox);replace HO:=Aside0.mk (Kd.R_below HO.out hb);replace HB:=Aside0.mk (below_step HB.out hb);have NV:=Aside0.mk (show gv ≠ g by rw [hg];exact Nat.ne_of_gt (blk_lt BG.out));replace BG:=Aside0.mk (blk_below BG.out hb);have WV:=Aside0.mk (show w.heap.size≤gv by rw [hg];exact HF.out.1);replace HF:=Aside0.mk (HF.out.below hb);have LV:=Aside0.mk (show gv < w1.heap.size from blk_lt hbox);clear hb hbox hg;)
 have cg:=(blk_cell BG.out 2).trans rfl
 have cv0:=(blk_cell BV.out 0).trans rfl
 have cv1:=(blk_cell BV.out 1).trans rfl
 have cv2:=(blk_cell BV.out 2).trans rfl
 go_region_held3 (fun w'=>w'.cell? ⟨g,2,none⟩=some (.int .i64 l)∧w'.cell? ⟨gv,0,none⟩=some (.int .i64 kd)∧w'.cell? ⟨gv,1,none⟩=some (.int .i64 n)∧w'.cell? ⟨gv,2,none⟩=some (.string s)) (first|exact ⟨(blk_cell BG.out 2).trans rfl,(blk_cell BV.out 0).trans rfl,(blk_cell BV.out 1).trans rfl,(blk_cell BV.out 2).trans rfl⟩|exact ⟨(blk_cell (blk_drew (blk_alloc BG.out _)) 2).trans rfl,(blk_cell (blk_drew (blk_alloc BV.out _)) 0).trans rfl,(blk_cell (blk_drew (blk_alloc BV.out _)) 1).trans rfl,(blk_cell (blk_drew (blk_alloc BV.out _)) 2).trans rfl⟩) (fail)
 simp only [i64_w]
 generalize hw2:World.drew (w1.alloc (Obj.cells #[.int .i64 (wrap64 (l + 1)),.int .i64 flow,.int .i64 step,.int .i64 kd,.int .i64 n,.string s] 32))=w2
 generalize hgm:w1.heap.size=gm
 have hb2:Below w1.heap.size w1 w2:=by rw [← hw2];exact below_drew1 (below_alloc (Below.refl _ _) _)
 have BM:=Aside0.mk (show w2.heap[gm]?=some (.cells #[.int .i64 (wrap64 (l + 1)),.int .i64 flow,.int .i64 step,.int .i64 kd,.int .i64 n,.string s] 32 (0,0)) by rw [← hw2,← hgm];exact blk_drew (blk_new w1 _))
 have NM:=Aside0.mk (show gm ≠ g by rw [← hgm];exact Nat.ne_of_gt (blk_lt BG.out))
 have WM:=Aside0.mk (show w.heap.size≤gm by rw [← hgm];exact HF.out.1)
 replace BG:=Aside0.mk (blk_below BG.out hb2)
 replace HO:=Aside0.mk (Kd.R_below HO.out hb2)
 replace HB:=Aside0.mk (below_step HB.out hb2)
 replace HF:=Aside0.mk (HF.out.below hb2)
 clear cg cv0 cv1 cv2 hw2 hgm hb2
 have c0:w2.cell? ⟨gm,0,none⟩=some (.int .i64 (wrap64 (l + 1))):=(blk_cell BM.out 0).trans rfl
 have c1:w2.cell? ⟨gm,1,none⟩=some (.int .i64 flow):=(blk_cell BM.out 1).trans rfl
 have c2:w2.cell? ⟨gm,2,none⟩=some (.int .i64 step):=(blk_cell BM.out 2).trans rfl
 have c3:w2.cell? ⟨gm,3,none⟩=some (.int .i64 kd):=(blk_cell BM.out 3).trans rfl
 have c4:w2.cell? ⟨gm,4,none⟩=some (.int .i64 n):=(blk_cell BM.out 4).trans rfl
 have c5:w2.cell? ⟨gm,5,none⟩=some (.string s):=(blk_cell BM.out 5).trans rfl
 have nm:=NM.out
 have nm':=Ne.symm nm
 go_wp2_with (go_at_call 22;(with_reducible refine (outbox_Write.calls k (wrap64 (l + 1)) flow step kd n s t1 t2 t3 _ HA.out).mono ?_);rintro e w3 ⟨rfl,hb⟩;replace BG:=Aside0.mk (blk_below BG.out hb);replace BM:=Aside0.mk (blk_below BM.out hb);replace HO:=Aside0.mk (Kd.R_below HO.out hb);replace HB:=Aside0.mk (below_step HB.out hb);replace HF:=Aside0.mk (HF.out.below hb);clear hb c0 c1 c2 c3 c4 c5;have c0:w3.cell? ⟨gm,0,none⟩=some (.int .i64 (wrap64 (l + 1))):=(blk_cell BM.out 0).trans rfl;have c1:w3.cell? ⟨gm,1,none⟩=some (.int .i64 flow):=(blk_cell BM.out 1).trans rfl;have c2:w3.cell? ⟨gm,2,none⟩=some (.int .i64 step):=(blk_cell BM.out 2).trans rfl;have c3:w3.cell? ⟨gm,3,none⟩=some (.int .i64 kd):=(blk_cell BM.out 3).trans rfl;have c4:w3.cell? ⟨gm,4,none⟩=some (.int .i64 n):=(blk_cell BM.out 4).trans rfl;have c5:w3.cell? ⟨gm,5,none⟩=some (.string s):=(blk_cell BM.out 5).trans rfl;have cg0:w3.cell? ⟨g,0,none⟩=some v:=(blk_cell BG.out 0).trans rfl;have cg2:w3.cell? ⟨g,2,none⟩=some (.int .i64 l):=(blk_cell BG.out 2).trans rfl;have zg0:w3.frozen? ⟨g,0,none⟩=false:=blk_frozen BG.out 0;have zg2:w3.frozen? ⟨g,2,none⟩=false:=blk_frozen BG.out 2)
 go_ret2
 exact ⟨v,rfl,⟨BG.out,HGE.out,HO.out⟩,HB.out,HF.out⟩
set_option maxHeartbeats 8000000 in
set_option maxRecDepth 100000 in
theorem outbox_Box_Add.nil_ (flow step kd n:Int) (s:ByteArray) (w:World):Calls Tryd.prog 12 #[.pointer none,.int .i64 flow,.int .i64 step,.agg #[.int .i64 kd,.int .i64 n,.string s]] w fun e w'=>e=.returned (.tuple #[.int .i64 0,.int .i64 1])∧Below w.heap.size w w':=by
 have hu30:=Tryd.underlying30
 go_enter Tryd.func12,Tryd.ntmps12
 go_wp2
 go_ret2
 exact ⟨rfl,below_alloc (Below.refl _ _) _⟩
set_option maxHeartbeats 8000000 in
set_option maxRecDepth 100000 in
theorem ob_clone (A0:Option Addr) (c0:Nat) (l0:List S32) (w:World) (hr0:Kd.C k32 w A0 l0.length l0) (hc0:l0.length≤c0) (hl:l0.length < 1000000000000) :
  Calls Tryd.prog 28 #[.slice A0 l0.length c0] w fun e w'=>∃ v0_:Value,e=.returned (v0_)∧Kd.R k32 32 w' w.heap.size (fun _=>True) v0_ l0∧Below w.heap.size w w':=by
 have hu:=Tryd.underlying27
 have q_:∀ (w:World) (a:Option Addr) (n c n' c':Nat),(binOp .eql 27 (.slice a n c) (.slice none n' c')).run Tryd.prog w=.ok (.bool a.isNone) w:=fun w a n c n' c'=>Lib.run_eql_slice_nil w _ _ a n c n' c' hu
 cases A0 with
 | none =>
  obtain rfl:l0=[]:=by
   rcases l0 with _|⟨x,l⟩
   ·rfl
   ·obtain ⟨ad,h,_⟩:=hr0.2.2 (Nat.succ_pos _)
    cases h
  clear hr0
  go_enter Tryd.func28,Tryd.ntmps28
  go_wp2
  go_ret
  exact ⟨_,rfl,Kd.R_nil _ _ _ _ _,Below.refl _ _⟩
 | some a =>
  have HR:=Aside0.mk hr0
  have HL:=Aside0.mk hl
  clear hr0 hl
  go_enter Tryd.func28,Tryd.ntmps28
  go_wp2_with (at_builtin;refine Kd.R_append_rows k32 (w0:=w) w.heap.size rfl _ _ 27 32 (.agg #[.int .i64 0,.int .i64 0,.int .i64 0,.int .i64 0,.int .i64 0,.string (⟨#[]⟩:ByteArray)]) 56 rfl Tryd.underlying27 ob_info rfl (by decide) (by omega) _ [] l0 _ _ _ (fun _=>True) (fun _=>False) rfl rfl ?aO ?aR (fun _ _ h=>h) (fun _ h=>h.elim) (fun _ _=>trivial) ?aB ?aS ?aL ?_;(case aR=>exact Kd.C_alloc HR.out _);(case aO=>exact ⟨fun _ _=>trivial,[],World.ownsRow_made w #[] 0 (Nat.le_refl _) (Nat.zero_le _) rfl,Reps.none _ _⟩);(case aB=>exact below_alloc (Below.refl _ _) _);(case aS=>rw [World.size_alloc];exact Nat.le_succ _);(case aL=>have:=HL.out;simp only [List.length_nil];omega);intro v1 w1 ho hb hg hat)
  rw [List.nil_append] at ho
  go_wp2
  go_ret
  exact ⟨_,rfl,ho,hb⟩
def ob_from (xs:List S32) (after n:Int):List S32:=if n < 1 then [] else if ob_ix (fun x=>decide (x.f0 > after)) xs 0 < 0 then [] else (xs.drop (ob_ix (fun x=>decide (x.f0 > after)) xs 0).toNat).take n.toNat
theorem ob_ix_bd (p:S32→Bool):∀ (l:List S32) (i:Nat),ob_ix p l i=-1 ∨ ∃ j:Nat,ob_ix p l i=(j:Int)∧i≤j∧j < i + l.length:=by
 intro l
 induction l with
 | nil=>intro i;exact .inl rfl
 | cons x l ih =>
  intro i
  simp only [ob_ix]
  split
  ·exact .inr ⟨i,rfl,Nat.le_refl _,by simp⟩
  ·rcases ih (i + 1) with h|⟨j,h1,h2,h3⟩
   ·exact .inl h
   ·exact .inr ⟨j,h1,by omega,by simp;omega⟩
theorem outbox_Box_From.nil_ (after n:Int) (w:World):Calls Tryd.prog 17 #[.pointer none,.int .i64 after,.int .i64 n] w fun e w'=>e=.returned (.slice none 0 0)∧Below w.heap.size w w':=by
 go_enter Tryd.func17,Tryd.ntmps17
 go_wp2
 go_ret
 exact ⟨rfl,below_alloc (Below.refl _ _) _⟩
set_option maxHeartbeats 8000000 in
set_option maxRecDepth 100000 in
theorem outbox_Box_From.bx (after n:Int) (xs:List S32) (m l:Int) (g:Nat) (v:Value) (w0 w:World) (hX:ObX 56 w0 w g v xs m l) (hl:xs.length < 1000000000000) :
  Calls Tryd.prog 17 #[.pointer (some ⟨g,0,none⟩),.int .i64 after,.int .i64 n] w fun e w'=>∃ v',e=.returned v'∧Kd.R k32 32 w' w.heap.size (fun _=>True) v' (ob_from xs after n)∧Below w.heap.size w w':=by
 obtain ⟨A,cc,rfl⟩:=Kd.R_slice hX.2.2
 have BG:=Aside0.mk hX.1
 have HC:=Aside0.mk (Kd.R_reads' hX.2.2)
 have HL:=Aside0.mk hl
 clear hX hl
 by_cases hn:n < 1
 ·have e:ob_from xs after n=[]:=if_pos hn
  rw [e]
  have c1:decide (n < 1)=true:=decide_eq_true hn
  clear hn e
  go_enter Tryd.func17,Tryd.ntmps17
  go_wp2
  go_ret
  exact ⟨_,rfl,Kd.R_nil _ _ _ _ _,below_alloc (Below.refl _ _) _⟩
 ·have c1:decide (n < 1)=false:=decide_eq_false hn
  have HN:=Aside0.mk hn
  have hix:=ob_ix_bd (fun x=>decide (x.f0 > after)) xs 0
  have EF:=Aside0.mk (show ob_from xs after n=if ob_ix (fun x=>decide (x.f0 > after)) xs 0 < 0 then [] else (xs.drop (ob_ix (fun x=>decide (x.f0 > after)) xs 0).toNat).take n.toNat from if_neg hn)
  generalize hr:ob_from xs after n=r at EF ⊢
  clear hn hr
  have HI:=Aside0.mk (show ∀ w':World,Below w.heap.size w w'→∀ ga,w'.cell? ⟨ga,0,none⟩=some (.int .i64 after)→Calls Tryd.prog 30 #[.slice A xs.length cc,.func (.func 31) #[] #[.pointer (some ⟨ga,0,none⟩)]] w' fun e w2=>e=.returned (.int .i64 (ob_ix (fun x=>decide (x.f0 > after)) xs 0))∧Below w'.heap.size w' w2 from
   fun w' hb ga hc=>ob_index 31 (fun x=>decide (x.f0 > after)) (enters_of Tryd.func31 (by kernel_rfl) rfl) ga A cc xs w' (Kd.C_below HC.out.2.2 hb) (by have:=HL.out;omega) (fun x W hW=>outbox_From1.clo x after ga W ((hW.cell (World.block_lt_of_cell? w' _ hc)).trans hc)))
  generalize ob_ix (fun x=>decide (x.f0 > after)) xs 0=ix at hix EF HI
  rcases hix with rfl|⟨i,rfl,_,hi⟩
  ·have er:r=[]:=EF.out.trans (if_pos (by decide))
   subst er
   clear EF HN
   go_enter Tryd.func17,Tryd.ntmps17
   go_wp2_with (first|((with_reducible refine gate_dst (N:=4) rfl ?_);refine box_event ?hg (N:=4) ?hd (cs:=#[.int .i64 after]) (t:=3) ?hr ?_;(case hd=>rfl);(case hg=>rfl);(case hr=>first|(go_simp;done)|(go_simp;rfl));intro ga hg w1 hbox hb;have BA:=Aside0.mk (hbox);replace BG:=Aside0.mk (blk_below BG.out hb);have HB:=Aside0.mk (hb);clear hb hbox hg;have ca:w1.cell? ⟨ga,0,none⟩=some (.int .i64 after):=(blk_cell BA.out 0).trans rfl;have cg0:w1.cell? ⟨g,0,none⟩=some (.slice A xs.length cc):=(blk_cell BG.out 0).trans rfl)|(go_at_call 30;(with_reducible refine (HI.out _ HB.out ga ca).mono ?_);rintro e w2 ⟨rfl,hb⟩;replace BG:=Aside0.mk (blk_below BG.out hb);replace BA:=Aside0.mk (blk_below BA.out hb);replace HB:=Aside0.mk (below_step HB.out hb);clear hb ca cg0;have cg0:w2.cell? ⟨g,0,none⟩=some (.slice A xs.length cc):=(blk_cell BG.out 0).trans rfl))
   go_ret
   exact ⟨_,rfl,Kd.R_nil _ _ _ _ _,HB.out⟩
  ·have er:r=(xs.drop i).take n.toNat:=EF.out.trans (if_neg (by omega))
   obtain ⟨n,rfl⟩:∃ n':Nat,n=n':=⟨n.toNat,by have:=HN.out;omega⟩
   rw [Int.toNat_natCast] at er
   subst er
   have c2:decide ((i:Int) < 0)=false:=decide_eq_false (by omega)
   have HI2:=Aside0.mk (show i < xs.length by omega)
   clear EF hi
   go_enter Tryd.func17,Tryd.ntmps17
   go_wp2_with (first|((with_reducible refine gate_dst (N:=4) rfl ?_);refine box_event ?hg (N:=4) ?hd (cs:=#[.int .i64 after]) (t:=3) ?hr ?_;(case hd=>rfl);(case hg=>rfl);(case hr=>first|(go_simp;done)|(go_simp;rfl));intro ga hg w1 hbox hb;have BA:=Aside0.mk (hbox);replace BG:=Aside0.mk (blk_below BG.out hb);have HB:=Aside0.mk (hb);clear hb hbox hg;have ca:w1.cell? ⟨ga,0,none⟩=some (.int .i64 after):=(blk_cell BA.out 0).trans rfl;have cg0:w1.cell? ⟨g,0,none⟩=some (.slice A xs.length cc):=(blk_cell BG.out 0).trans rfl)|(go_at_call 30;(with_reducible refine (HI.out _ HB.out ga ca).mono ?_);rintro e w2 ⟨rfl,hb⟩;replace BG:=Aside0.mk (blk_below BG.out hb);replace BA:=Aside0.mk (blk_below BA.out hb);replace HB:=Aside0.mk (below_step HB.out hb);clear hb ca cg0;have cg0:w2.cell? ⟨g,0,none⟩=some (.slice A xs.length cc):=(blk_cell BG.out 0).trans rfl))
   have HCl:=Aside0.mk (show ∀ q,i + q≤xs.length→∀ w',Below w.heap.size w w'→Calls Tryd.prog 28 #[.slice (A.map (fun x=>x.add (i * 6))) q (cc - i)] w' fun e w2=>∃ v',e=.returned v'∧Kd.R k32 32 w2 w'.heap.size (fun _=>True) v' ((xs.drop i).take q)∧Below w'.heap.size w' w2 from fun q hq w' hb=>by
    have hcc:=HC.out.2.1
    have hi0:=HI2.out
    have hl0:=HL.out
    have h1:=Kd.C_mid (lo:=i) (hi:=i + q) (c:=cc) (Kd.C_below HC.out.2.2 hb) (Nat.le_add_right _ _) hq HC.out.2.1
    rw [if_neg (by omega:¬ cc=i),List.drop_take,Nat.add_sub_cancel_left] at h1
    have hl1:((xs.drop i).take q).length=q:=by rw [List.length_take,List.length_drop];omega
    have h2:=ob_clone _ (cc - i) ((xs.drop i).take q) w' h1 (by rw [hl1];omega) (by rw [hl1];omega)
    rw [hl1] at h2
    exact h2)
   have hi0:=HI2.out
   have hl0:=HL.out
   have hn0:=HN.out
   have hcap:=HC.out.2.1
   have hii:0≤(i:Int):=by omega
   have fc:(cc=i)=False:=eq_false (by omega)
   have fc':(i=cc)=False:=eq_false (by omega)
   have f4:(i:Int)≤(xs.length:Int):=by omega
   have f4':i≤xs.length:=by omega
   by_cases c3:(xs.length:Int) < (n:Int)
   ·have f1:IntKind.i64.wrap ((i:Int) + (xs.length:Int))=(i:Int) + (xs.length:Int):=IntWalk.i64_in _ (by omega)
    have f2:((i:Int) + (xs.length:Int) < (xs.length:Int))=False:=eq_false (by omega)
    have f3:=eq_true c3
    have f3':=eq_true (show xs.length < n by omega)
    have HQ:=Aside0.mk (show (xs.drop i).take n=(xs.drop i).take (xs.length - i) by rw [List.take_of_length_le (by rw [List.length_drop];omega),List.take_of_length_le (by rw [List.length_drop];omega)])
    clear c3 hi0 hl0 hn0
    go_still_tail 21,(by kernel_rfl)
    change wpList _ _ _ _ _ (World.drew _)
    go_wp2_with (go_at_call 28;(with_reducible refine (HCl.out (xs.length - i) (by omega) _ (below_drew1 HB.out)).mono ?_);rintro e w4 ⟨v',rfl,ho,hb⟩;have HR:=Aside0.mk ho;have HW:=Aside0.mk hb;clear ho hb)
    go_ret
    exact ⟨_,rfl,by rw [HQ.out];exact Kd.R_lower HR.out (below_drew1 HB.out).size,below_step (below_drew1 HB.out) HW.out⟩
   ·have f3:=eq_false c3
    have f3':=eq_false (show ¬ xs.length < n by omega)
    have f1:IntKind.i64.wrap ((i:Int) + (n:Int))=(i:Int) + (n:Int):=IntWalk.i64_in _ (by omega)
    have g1:((i:Int) + (n:Int)).toNat=i + n:=by omega
    have g2:0≤(i:Int) + (n:Int):=by omega
    by_cases c4:i + n < xs.length
    ·have f2:=eq_true (show (i:Int) + (n:Int) < (xs.length:Int) by omega)
     have g3:(i:Int)≤(i:Int) + (n:Int):=by omega
     have g4:(i:Int) + (n:Int)≤(cc:Int):=by omega
     have f2':=eq_true c4
     have f5:i + n - i=n:=by omega
     have f6:i≤i + n:=by omega
     have f7:i + n≤xs.length:=by omega
     have f8:i + n≤cc:=by omega
     clear c3 c4 hi0 hl0 hn0
     go_still_tail 21,(by kernel_rfl)
     change wpList _ _ _ _ _ (World.drew _)
     go_wp2_with (go_at_call 28;(with_reducible refine (HCl.out n f7 _ (below_drew1 HB.out)).mono ?_);rintro e w4 ⟨v',rfl,ho,hb⟩;have HR:=Aside0.mk ho;have HW:=Aside0.mk hb;clear ho hb)
     go_ret
     exact ⟨_,rfl,Kd.R_lower HR.out (below_drew1 HB.out).size,below_step (below_drew1 HB.out) HW.out⟩
    ·have f2:=eq_false (show ¬ (i:Int) + (n:Int) < (xs.length:Int) by omega)
     have f2':=eq_false c4
     have HQ:=Aside0.mk (show (xs.drop i).take n=(xs.drop i).take (xs.length - i) by rw [List.take_of_length_le (by rw [List.length_drop];omega),List.take_of_length_le (by rw [List.length_drop];omega)])
     clear c3 c4 hi0 hl0 hn0
     go_still_tail 21,(by kernel_rfl)
     change wpList _ _ _ _ _ (World.drew _)
     go_wp2_with (go_at_call 28;(with_reducible refine (HCl.out (xs.length - i) (by omega) _ (below_drew1 HB.out)).mono ?_);rintro e w4 ⟨v',rfl,ho,hb⟩;have HR:=Aside0.mk ho;have HW:=Aside0.mk hb;clear ho hb)
     go_ret
     exact ⟨_,rfl,by rw [HQ.out];exact Kd.R_lower HR.out (below_drew1 HB.out).size,below_step (below_drew1 HB.out) HW.out⟩
theorem reps_take {R:S32→List Value→Prop} {ps:List S32} {cs:List Value} (h:Reps R 6 ps cs) (i:Nat) (hi:i≤ps.length):Reps R 6 (ps.take i) (cs.take (i * 6)):=by
 obtain ⟨h1,h2⟩:=h
 refine ⟨by rw [List.length_take,List.length_take];omega,fun j p hj=>?_⟩
 have hji:j < i:=by
  have:=(List.getElem?_eq_some_iff.1 hj).1
  rw [List.length_take] at this
  omega
 rw [List.getElem?_take,if_pos hji] at hj
 have:=h2 j p hj
 rw [List.drop_take,List.take_take,Nat.min_eq_left (by omega)]
 exact this
theorem R32_cleared {W:World} {base b n cap i:Nat} {ys:List S32} (h:Kd.R k32 32 W base (fun _=>True) (.slice (some ⟨b,0,none⟩) n cap) ys) (hi:i≤n) (zs:List Value) (hz:zs.length=(n - i) * 6) :
  Kd.R k32 32 (W.setCells b (i * 6) zs) base (fun _=>True) (.slice (some ⟨b,0,none⟩) i cap) (ys.take i):=by
 have hn:=(Kd.R_reads' h).1
 obtain ⟨_,inner,⟨hlen,hv⟩,hr⟩:=h
 rcases hv with ⟨hv,_⟩|⟨g,cap',cur,hv,hb,hh,hnc,hcm,hcs,htk⟩
 ·cases hv
 injection hv with ha hn' hc
 injection ha with ha
 injection ha with hg
 subst hg;subst hc
 obtain ⟨cur',q1,q2,q3⟩:=setCells_row zs (i * 6) W cur hh (by rw [hz,hcs];show i * 6 + (n - i) * 6≤cap * 6;omega)
 have hli:(ys.take i).length=i:=by rw [List.length_take];omega
 have hcl:cur.toList.length=cap * 6:=by rw [Array.length_toList];exact hcs
 refine ⟨fun _ _=>trivial,inner.take (i * 6),⟨?_,.inr ⟨b,cap,cur',by rw [hli],hb,q1,by rw [hli];omega,hcm,q2.trans hcs,?_⟩⟩,?_⟩
 ·rw [List.length_take,hli,hlen];show min (i * 6) (ys.length * 6)=i * 6;omega
 ·rw [hli,q3,← htk]
  show List.take (i * 6) _=List.take (i * 6) (List.take (ys.length * 6) _)
  rw [List.append_assoc,List.take_append_of_le_length (by rw [List.length_take];omega),List.take_take,List.take_take]
  congr 1;omega
 ·refine reps_take (hr.imp_ (fun p c hp=>?_)) i (by omega)
  have e:=k32_open (k32.K_of_M hp);subst e;exact k32_mkM _ _ _ p
section
variable {ops:Array Oper} {rest:List Oper} {o:Oper} {a:Act} {Q:Exit→Act→World→Prop}
theorem ob_clear {w0 W:World} {base b n cap i:Nat} {ys:List S32} (hgd:o.guard=none) (hN:o.dst=none) (x:Operand) (ho:o.op=.call { callee:=.builtin .clear,args:=#[x],argTypes:=#[27] }) (hx:a.eval x=.slice (some ⟨b,i * 6,none⟩) (n - i) (cap - i))
  (HO:Kd.R k32 32 W base (fun _=>True) (.slice (some ⟨b,0,none⟩) n cap) ys) (hi:i≤n) (HB:Below base w0 W)
  (h:∀ w1,Kd.R k32 32 w1 base (fun _=>True) (.slice (some ⟨b,0,none⟩) i cap) (ys.take i)→Below base w0 w1→wpList Tryd.prog ops Q rest a w1):wpList Tryd.prog ops Q (o :: rest) a W:=by
 have hnn:=(Kd.R_reads' HO).1
 have hbb:=Kd.R_base HO b (by simp [Value.ownBlock])
 have hrun:∃ zs:List Value,zs.length=(n - i) * 6∧(Builtin.clear_ #[27] o.type #[.slice (some ⟨b,i * 6,none⟩) (n - i) (cap - i)]).run Tryd.prog W=.ok (.tuple #[]) (W.setCells b (i * 6) zs):=by
  have hown:=HO.2
  obtain ⟨inner,⟨hlen,hv⟩,_⟩:=hown
  rcases hv with ⟨hv,_⟩|⟨g,cap',cur,hv,hb,hh,hnc,hcm,hcs,htk⟩
  ·cases hv
  injection hv with ha hn' hc
  injection ha with ha
  injection ha with hg
  subst hg;subst hc
  by_cases h0:n - i=0
  ·refine ⟨[],by rw [h0];rfl,?_⟩
   rw [h0]
   simp [Builtin.clear_,Tryd.underlying27,World.setCells]
  ·obtain ⟨m,hm⟩:∃ m,n - i=m + 1:=⟨n - i - 1,by omega⟩
   rw [hm]
   have hz:∀ w:World,(zeroValue 32).run Tryd.prog w=.ok (.agg #[.int .i64 0,.int .i64 0,.int .i64 0,.int .i64 0,.int .i64 0,.string (⟨#[]⟩:ByteArray)]) w:=fun w=>by
    have h32:Tryd.t32.zero=some (.agg #[.int .i64 0,.int .i64 0,.int .i64 0,.int .i64 0,.int .i64 0,.string (⟨#[]⟩:ByteArray)]):=by kernel_rfl
    simp [zeroValue,h32]
   refine ⟨(Builtin.zeroCells (Value.cells (.agg #[.int .i64 0,.int .i64 0,.int .i64 0,.int .i64 0,.int .i64 0,.string (⟨#[]⟩:ByteArray)])) (m + 1)).toList,?_,?_⟩
   ·simp [Builtin.zeroCells,Value.cells]
   ·have hst:=run_storeCells_cells (P:=Tryd.prog) b (i * 6) (Builtin.zeroCells (Value.cells (.agg #[.int .i64 0,.int .i64 0,.int .i64 0,.int .i64 0,.int .i64 0,.string (⟨#[]⟩:ByteArray)])) (m + 1)).toList 0 W ?_ ?_ ?_
    ·simp only [Nat.add_zero] at hst
     simp [Builtin.clear_,Tryd.underlying27,hz,hst]
    ·intro j hj
     have hj':j < (m + 1) * 6:=by simpa [Builtin.zeroCells,Value.cells] using hj
     have:=blk_cell hh (i * 6 + 0 + j)
     rw [this,Array.getElem?_eq_getElem (by rw [hcs];show i * 6 + 0 + j < cap * 6;omega)]
     rfl
    ·intro j _;exact blk_frozen hh _
    ·intro u hu
     obtain ⟨q,_,hq⟩:=(by simpa [Builtin.zeroCells] using hu:∃ q,q < (m + 1) * (Value.cells (.agg #[.int .i64 0,.int .i64 0,.int .i64 0,.int .i64 0,.int .i64 0,.string (⟨#[]⟩:ByteArray)])).size∧((Value.cells (.agg #[.int .i64 0,.int .i64 0,.int .i64 0,.int .i64 0,.int .i64 0,.string (⟨#[]⟩:ByteArray)]))[q % (Value.cells (.agg #[.int .i64 0,.int .i64 0,.int .i64 0,.int .i64 0,.int .i64 0,.string (⟨#[]⟩:ByteArray)])).size]!)=u)
     have h6:q % (Value.cells (.agg #[.int .i64 0,.int .i64 0,.int .i64 0,.int .i64 0,.int .i64 0,.string (⟨#[]⟩:ByteArray)])).size < 6:=Nat.mod_lt _ (by decide)
     have h7:∀ r < 6,((Value.cells (.agg #[.int .i64 0,.int .i64 0,.int .i64 0,.int .i64 0,.int .i64 0,.string (⟨#[]⟩:ByteArray)]))[r]!).oneCell'=true:=by decide
     rw [← hq]
     exact h7 _ h6
 obtain ⟨zs,hzl,hrun⟩:=hrun
 refine wpList_plain hgd fun K hK=>?_
 unfold Oper.wp execOp
 simp only [ho,resolve,invoke,builtin,Sem.run_bind,Sem.run_pure,Result.andThen_ok,List.map_toArray,List.map_cons,List.map_nil,hx,hrun]
 show K (a.put o.dst _) _
 rw [hN]
 obtain ⟨s1,s2,s3,s4⟩:=setCells_same b zs (i * 6) W
 exact hK _ _ (h _ (R32_cleared HO hi zs hzl) (HB.trans ⟨s1,s2,s3,by rw [s4];exact Nat.le_refl _,fun k hk=>setCells_far _ _ k (by omega)⟩))
end
theorem ob_none {p:S32→Bool}:∀ (l:List S32) (i:Nat),ob_ix p l i=-1→l.filter (fun x=>!p x)=l:=by
 intro l
 induction l with
 | nil=>intro i _;rfl
 | cons x l ih =>
  intro i h
  simp only [ob_ix] at h
  cases hx:p x with
  | true=>rw [hx,if_pos rfl] at h;omega
  | false=>rw [hx,if_neg (by decide)] at h;rw [List.filter_cons_of_pos (by rw [hx];rfl),ih _ h]
theorem ob_at {p:S32→Bool}:∀ (l:List S32) (i j:Nat),ob_ix p l i=(j:Int)→(l.take (j - i + 1)).filter (fun x=>!p x)=l.take (j - i):=by
 intro l
 induction l with
 | nil=>intro i j h;simp only [ob_ix] at h;omega
 | cons x l ih =>
  intro i j h
  simp only [ob_ix] at h
  cases hx:p x with
  | true =>
   rw [hx,if_pos rfl] at h
   have:j=i:=by omega
   subst this
   simp [hx]
  | false =>
   rw [hx,if_neg (by decide)] at h
   have hb:=ob_ix_bd p l (i + 1)
   have hj:i + 1≤j:=by rcases hb with hb|⟨j',h1,h2,h3⟩ <;> omega
   rw [show j - i=(j - (i + 1)) + 1 by omega,List.take_succ_cons,List.take_succ_cons,List.filter_cons_of_pos (by rw [hx];rfl),ih _ _ h]
theorem R32_some {W:World} {base:Nat} {ok:Nat→Prop} {v:Value} {xs:List S32} (h:Kd.R k32 32 W base ok v xs) (hn:xs ≠ []):∃ b c,v=.slice (some ⟨b,0,none⟩) xs.length c∧base≤b∧xs.length≤c:=by
 obtain ⟨_,inner,⟨hlen,hv⟩,hr⟩:=h
 rcases hv with ⟨hv,h0⟩|⟨g,cap',cur,hv,hb,hh,hnc,hcm,hcs,htk⟩
 ·exact absurd (List.length_eq_zero_iff.1 h0) hn
 ·exact ⟨g,cap',hv,hb,hnc⟩
set_option maxHeartbeats 8000000 in
set_option maxRecDepth 100000 in
theorem ob_delete (q:Int) (ga:Nat) (v:Value) (xs:List S32) (w0 w:World) (hO:Kd.R k32 32 w w0.heap.size (fun _=>True) v xs) (hA:w.heap[ga]?=some (.cells #[.int .i64 q] 3 (0,0))) (hB:Below w0.heap.size w0 w) (hl:xs.length < 1000000000000) :
  Calls Tryd.prog 27 #[v,.func (.func 29) #[] #[.pointer (some ⟨ga,0,none⟩)]] w fun e w'=>∃ v',e=.returned v'∧Kd.R k32 32 w' w0.heap.size (fun _=>True) v' (xs.filter (fun x=>!decide (x.f0≤q)))∧Below w0.heap.size w0 w':=by
 obtain ⟨A,cc,rfl⟩:=Kd.R_slice hO
 have hu32:=Tryd.underlying32
 have hu27:=Tryd.underlying27
 have hix:=ob_ix_bd (fun x=>decide (x.f0≤q)) xs 0
 have hn1:=ob_none (p:=fun x=>decide (x.f0≤q)) xs 0
 have hn2:=fun j=>ob_at (p:=fun x=>decide (x.f0≤q)) xs 0 j
 have HI:=Aside0.mk (ob_index 29 (fun x=>decide (x.f0≤q)) (enters_of Tryd.func29 (by kernel_rfl) rfl) ga A cc xs w (Kd.R_reads' hO).2.2 (by omega) (fun x W hW=>outbox_Ack1.clo x q ga W ((blk_cell (blk_below hA hW) 0).trans rfl)))
 have BA:=Aside0.mk hA
 have HO:=Aside0.mk hO
 have HB:=Aside0.mk hB
 have HL:=Aside0.mk hl
 clear hA hO hB hl
 generalize ob_ix (fun x=>decide (x.f0≤q)) xs 0=ix at hix hn1 hn2 HI
 rcases hix with rfl|⟨i0,rfl,_,hi⟩
 ·have e:=hn1 rfl
  rw [e]
  clear hn1 hn2 e
  go_enter Tryd.func27,Tryd.ntmps27
  go_wp2_with (go_at_call 30;(with_reducible refine HI.out.mono ?_);rintro e w2 ⟨rfl,hb⟩;replace HO:=Aside0.mk (Kd.R_below HO.out hb);replace HB:=Aside0.mk (below_step HB.out hb);clear hb)
  go_ret
  exact ⟨_,rfl,HO.out,HB.out⟩
 ·have HT:=Aside0.mk (hn2 i0 rfl)
  clear hn1 hn2
  have hne:xs ≠ []:=by rintro rfl;simp at hi
  obtain ⟨b,c,e1,hbb,hcl⟩:=R32_some HO.out hne
  injection e1 with e1 _ e2
  subst e1;subst e2
  clear hne
  have HBB:=Aside0.mk hbb
  have HCC:=Aside0.mk hcl
  have HIL:=Aside0.mk (show i0 < xs.length by omega)
  have k1:IntKind.i64.wrap ((i0:Int) + 1)=((i0 + 1:Nat):Int):=(IntWalk.i64_in _ (by have:=HL.out;omega)).trans (by omega)
  have k2:((i0:Int) == -1)=false:=beq_eq_false_iff_ne.mpr (by omega)
  clear hbb hcl hi
  go_enter Tryd.func27,Tryd.ntmps27
  go_wp2_with (go_at_call 30;(with_reducible refine HI.out.mono ?_);rintro e w2 ⟨rfl,hb⟩;replace HO:=Aside0.mk (Kd.R_below HO.out hb);replace HB:=Aside0.mk (below_step HB.out hb);replace BA:=Aside0.mk (blk_below BA.out hb);clear hb)
  go_loopg [5,6] xs.length (fun kq v5 v6 w'=>∃ (i j:Nat) (ys:List S32),j≤xs.length∧xs.length - j≤kq∧i < j∧v5=.int .i64 i∧v6=.int .i64 j∧Aside0 (ys.length=xs.length)∧Aside0 (ys.take i=(xs.take j).filter (fun x=>!decide (x.f0≤q)))∧Aside0 (ys.drop j=xs.drop j)∧Aside0 (Kd.R k32 32 w' w0.heap.size (fun _=>True) (.slice (some ⟨b,0,none⟩) xs.length cc) ys)∧Aside0 (w'.heap[ga]?=some (.cells #[.int .i64 q] 3 (0,0)))∧Aside0 (Below w0.heap.size w0 w'))
  case atStart=>exact ⟨i0,i0 + 1,xs,HIL.out,Nat.sub_le _ _,Nat.lt_succ_self _,rfl,by first|rfl|go_num,⟨rfl⟩,⟨by have:=HT.out;rw [Nat.sub_zero] at this;exact this.symm⟩,⟨rfl⟩,HO,BA,HB⟩
  case round =>
   clear HO BA HB
   obtain ⟨i,j,ys,hj,hk,hij,rfl,rfl,HY,HT2,HD,HO,BA,HB⟩:=hrel
   have HLn:=HL.out
   have HCn:=HCC.out
   have HKq:=Aside0.mk hk
   clear hk
   by_cases hlt:j < xs.length
   ·have hyl:=HY.out
    have exj:rd_T32 ys (j:Int)=xs[j]:=by
     rw [ob_rd ys j (by omega)]
     have:=HD.out
     rw [List.drop_eq_getElem_cons hlt,List.drop_eq_getElem_cons (show j < ys.length by omega)] at this
     exact (List.cons.inj this).1
    have HD1:=Aside0.mk (show ys.drop (j + 1)=xs.drop (j + 1) by rw [← List.drop_drop,← List.drop_drop,HD.out])
    have HTT:=Aside0.mk (show (xs.take (j + 1)).filter (fun x=>!decide (x.f0≤q))=ys.take i ++ (if decide ((rd_T32 ys (j:Int)).f0≤q)=true then [] else [rd_T32 ys (j:Int)]) by
     rw [List.take_succ_eq_append_getElem hlt,List.filter_append,← HT2.out,exj]
     congr 1
     by_cases hx:xs[j].f0≤q <;> simp [hx])
    clear exj
    obtain ⟨ad,e1,x0,x1,x2,x3,x4,x5⟩:=at_T32 (Kd.R_reads' HO.out).2.2 (j:Int) (by omega) (by omega)
    cases e1
    simp only [Int.toNat_natCast,add_plain,Nat.zero_add] at x0 x1 x2 x3 x4 x5
    have c1:decide ((j:Int) < (xs.length:Int))=true:=decide_eq_true (by omega)
    have c3:decide (j < xs.length)=true:=decide_eq_true hlt
    have p3:=eq_true hlt
    have q3:=eq_true (show (j:Int) < (xs.length:Int) by omega)
    have p0:0≤(j:Int):=by omega
    have k3:IntKind.i64.wrap ((j:Int) + 1)=((j + 1:Nat):Int):=(IntWalk.i64_in _ (by omega)).trans (by omega)
    have k4:IntKind.i64.wrap ((i:Int) + 1)=((i + 1:Nat):Int):=(IntWalk.i64_in _ (by omega)).trans (by omega)
    have HI3:=Aside0.mk hlt
    have HI4:=Aside0.mk hij
    have NAB:=Aside0.mk (show ga ≠ b from fun e=>Kd.R_ne HO.out BA.out (by decide) (by rw [e];simp [Value.ownBlock]))
    have ix0:(i:Int) < (xs.length:Int):=by omega
    have ix1:=eq_true ix0
    have ix2:=eq_true (show i < xs.length by omega)
    have ix3:0≤(i:Int):=by omega
    clear hlt hij hj hyl HLn HCn
    obtain ⟨d,hd⟩:∃ d,decide ((rd_T32 ys (j:Int)).f0≤q)=d:=⟨_,rfl⟩
    cases d with
    | true =>
     have HX:=Aside0.mk (show ys.take i=(xs.take (j + 1)).filter (fun x=>!decide (x.f0≤q)) by rw [HTT.out,if_pos hd,List.append_nil])
     have hd':(rd_T32 ys (j:Int)).f0≤q:=of_decide_eq_true hd
     go_wp2_with (first|((with_reducible refine gate_dst (N:=7) rfl ?_);refine box_event ?hg (N:=7) ?hd (cs:=#[.int .i64 0,.int .i64 0,.int .i64 0,.int .i64 0,.int .i64 0,.string (⟨#[]⟩:ByteArray)]) (t:=32) ?hr ?_;(case hd=>rfl);(case hg=>rfl);(case hr=>first|(go_simp;done)|(go_simp;rfl));intro gv hg w3 hbox hb;have BV:=Aside0.mk (hbox);have NV:=Aside0.mk (show b ≠ gv by rw [hg];exact Nat.ne_of_lt (Kd.R_lt HO.out b (by simp [Value.ownBlock])));replace HO:=Aside0.mk (Kd.R_below HO.out hb);have NA:=Aside0.mk (show ga ≠ gv by rw [hg];exact Nat.ne_of_lt (blk_lt BA.out));replace BA:=Aside0.mk (blk_below BA.out hb);have WV:=Aside0.mk (show w0.heap.size≤gv by rw [hg];exact HB.out.size);replace HB:=Aside0.mk (below_step HB.out hb);clear hb hbox hg;)|((with_reducible refine gate_store (t:=32) (p:=7) rfl ?_);refine store_all 32 gv 32 #[.int .i64 0,.int .i64 0,.int .i64 0,.int .i64 0,.int .i64 0,.string (⟨#[]⟩:ByteArray)] #[.int .i64 (rd_T32 ys (j:Int)).f0,.int .i64 (rd_T32 ys (j:Int)).f1,.int .i64 (rd_T32 ys (j:Int)).f2,.int .i64 (rd_T32 ys (j:Int)).f3.f0,.int .i64 (rd_T32 ys (j:Int)).f3.f1,.string (rd_T32 ys (j:Int)).f3.f2] rfl rfl rfl (by first|rfl|(go_simp;done)) BV.out (by kernel_rfl) rfl (by kernel_rfl) ?_;intro w4 hx hg;replace BV:=Aside0.mk (hx);replace HO:=Aside0.mk (R32_keep HO.out (fun k hk hl=>hg.block k hl (fun e=>NV.out (by simp only [Value.ownBlock,Option.some.injEq] at hk e;rw [hk,e]))));replace BA:=Aside0.mk (blk_grown BA.out hg (fun e=>NA.out (Option.some.inj e)));replace HB:=Aside0.mk (HB.out.grown hg HB.out.size (fun k_ e_=>by cases e_;exact WV.out));clear hx hg;have c0:w4.cell? ⟨gv,0,none⟩=some (.int .i64 (rd_T32 ys (j:Int)).f0):=(blk_cell BV.out 0).trans rfl;have c1:w4.cell? ⟨gv,1,none⟩=some (.int .i64 (rd_T32 ys (j:Int)).f1):=(blk_cell BV.out 1).trans rfl;have c2:w4.cell? ⟨gv,2,none⟩=some (.int .i64 (rd_T32 ys (j:Int)).f2):=(blk_cell BV.out 2).trans rfl;have c3:w4.cell? ⟨gv,3,none⟩=some (.int .i64 (rd_T32 ys (j:Int)).f3.f0):=(blk_cell BV.out 3).trans rfl;have c4:w4.cell? ⟨gv,4,none⟩=some (.int .i64 (rd_T32 ys (j:Int)).f3.f1):=(blk_cell BV.out 4).trans rfl;have c5:w4.cell? ⟨gv,5,none⟩=some (.string (rd_T32 ys (j:Int)).f3.f2):=(blk_cell BV.out 5).trans rfl)|(go_at_call 29;(refine (outbox_Ack1.clo (rd_T32 ys (j:Int)) q ga _ ((blk_cell BA.out 0).trans rfl)).mono ?_);rintro e w5 ⟨rfl,hb⟩;replace BV:=Aside0.mk (blk_below BV.out hb);replace HO:=Aside0.mk (Kd.R_below HO.out hb);replace BA:=Aside0.mk (blk_below BA.out hb);replace HB:=Aside0.mk (below_step HB.out hb);clear hb c0 c1 c2 c3 c4 c5;have c0:w5.cell? ⟨gv,0,none⟩=some (.int .i64 (rd_T32 ys (j:Int)).f0):=(blk_cell BV.out 0).trans rfl;have c1:w5.cell? ⟨gv,1,none⟩=some (.int .i64 (rd_T32 ys (j:Int)).f1):=(blk_cell BV.out 1).trans rfl;have c2:w5.cell? ⟨gv,2,none⟩=some (.int .i64 (rd_T32 ys (j:Int)).f2):=(blk_cell BV.out 2).trans rfl;have c3:w5.cell? ⟨gv,3,none⟩=some (.int .i64 (rd_T32 ys (j:Int)).f3.f0):=(blk_cell BV.out 3).trans rfl;have c4:w5.cell? ⟨gv,4,none⟩=some (.int .i64 (rd_T32 ys (j:Int)).f3.f1):=(blk_cell BV.out 4).trans rfl;have c5:w5.cell? ⟨gv,5,none⟩=some (.string (rd_T32 ys (j:Int)).f3.f2):=(blk_cell BV.out 5).trans rfl))
     go_roundg (xs.length - (j + 1))
     case measure=>have:=HI3.out;have:=HKq.out;omega
     case rel=>exact ⟨i,j + 1,ys,HI3.out,Nat.le_refl _,Nat.lt_succ_of_lt HI4.out,rfl,by go_num,HY,HX,HD1,HO,BA,HB⟩
    | false =>
     have HX:=Aside0.mk (show (ys.set i (rd_T32 ys (j:Int))).take (i + 1)=(xs.take (j + 1)).filter (fun x=>!decide (x.f0≤q)) by
      rw [HTT.out,if_neg (by rw [hd];decide),List.take_succ_eq_append_getElem (by rw [List.length_set];have:=HY.out;have:=HI3.out;have:=HI4.out;omega),List.take_set_of_le (Nat.le_refl i),List.getElem_set_self])
     have HD2:=Aside0.mk (show (ys.set i (rd_T32 ys (j:Int))).drop (j + 1)=xs.drop (j + 1) by rw [List.drop_set_of_lt (by have:=HI4.out;omega)];exact HD1.out)
     have HY2:=Aside0.mk (show (ys.set i (rd_T32 ys (j:Int))).length=xs.length by rw [List.length_set];exact HY.out)
     have hd':¬ (rd_T32 ys (j:Int)).f0≤q:=of_decide_eq_false hd
     go_wp2_with (first|((with_reducible refine gate_dst (N:=7) rfl ?_);refine box_event ?hg (N:=7) ?hd (cs:=#[.int .i64 0,.int .i64 0,.int .i64 0,.int .i64 0,.int .i64 0,.string (⟨#[]⟩:ByteArray)]) (t:=32) ?hr ?_;(case hd=>rfl);(case hg=>rfl);(case hr=>first|(go_simp;done)|(go_simp;rfl));intro gv hg w3 hbox hb;have BV:=Aside0.mk (hbox);have NV:=Aside0.mk (show b ≠ gv by rw [hg];exact Nat.ne_of_lt (Kd.R_lt HO.out b (by simp [Value.ownBlock])));replace HO:=Aside0.mk (Kd.R_below HO.out hb);have NA:=Aside0.mk (show ga ≠ gv by rw [hg];exact Nat.ne_of_lt (blk_lt BA.out));replace BA:=Aside0.mk (blk_below BA.out hb);have WV:=Aside0.mk (show w0.heap.size≤gv by rw [hg];exact HB.out.size);replace HB:=Aside0.mk (below_step HB.out hb);clear hb hbox hg;)|((with_reducible refine gate_store (t:=32) (p:=7) rfl ?_);refine store_all 32 gv 32 #[.int .i64 0,.int .i64 0,.int .i64 0,.int .i64 0,.int .i64 0,.string (⟨#[]⟩:ByteArray)] #[.int .i64 (rd_T32 ys (j:Int)).f0,.int .i64 (rd_T32 ys (j:Int)).f1,.int .i64 (rd_T32 ys (j:Int)).f2,.int .i64 (rd_T32 ys (j:Int)).f3.f0,.int .i64 (rd_T32 ys (j:Int)).f3.f1,.string (rd_T32 ys (j:Int)).f3.f2] rfl rfl rfl (by first|rfl|(go_simp;done)) BV.out (by kernel_rfl) rfl (by kernel_rfl) ?_;intro w4 hx hg;replace BV:=Aside0.mk (hx);replace HO:=Aside0.mk (R32_keep HO.out (fun k hk hl=>hg.block k hl (fun e=>NV.out (by simp only [Value.ownBlock,Option.some.injEq] at hk e;rw [hk,e]))));replace BA:=Aside0.mk (blk_grown BA.out hg (fun e=>NA.out (Option.some.inj e)));replace HB:=Aside0.mk (HB.out.grown hg HB.out.size (fun k_ e_=>by cases e_;exact WV.out));clear hx hg;have c0:w4.cell? ⟨gv,0,none⟩=some (.int .i64 (rd_T32 ys (j:Int)).f0):=(blk_cell BV.out 0).trans rfl;have c1:w4.cell? ⟨gv,1,none⟩=some (.int .i64 (rd_T32 ys (j:Int)).f1):=(blk_cell BV.out 1).trans rfl;have c2:w4.cell? ⟨gv,2,none⟩=some (.int .i64 (rd_T32 ys (j:Int)).f2):=(blk_cell BV.out 2).trans rfl;have c3:w4.cell? ⟨gv,3,none⟩=some (.int .i64 (rd_T32 ys (j:Int)).f3.f0):=(blk_cell BV.out 3).trans rfl;have c4:w4.cell? ⟨gv,4,none⟩=some (.int .i64 (rd_T32 ys (j:Int)).f3.f1):=(blk_cell BV.out 4).trans rfl;have c5:w4.cell? ⟨gv,5,none⟩=some (.string (rd_T32 ys (j:Int)).f3.f2):=(blk_cell BV.out 5).trans rfl)|(go_at_call 29;(refine (outbox_Ack1.clo (rd_T32 ys (j:Int)) q ga _ ((blk_cell BA.out 0).trans rfl)).mono ?_);rintro e w5 ⟨rfl,hb⟩;replace BV:=Aside0.mk (blk_below BV.out hb);replace HO:=Aside0.mk (Kd.R_below HO.out hb);replace BA:=Aside0.mk (blk_below BA.out hb);replace HB:=Aside0.mk (below_step HB.out hb);clear hb c0 c1 c2 c3 c4 c5;have c0:w5.cell? ⟨gv,0,none⟩=some (.int .i64 (rd_T32 ys (j:Int)).f0):=(blk_cell BV.out 0).trans rfl;have c1:w5.cell? ⟨gv,1,none⟩=some (.int .i64 (rd_T32 ys (j:Int)).f1):=(blk_cell BV.out 1).trans rfl;have c2:w5.cell? ⟨gv,2,none⟩=some (.int .i64 (rd_T32 ys (j:Int)).f2):=(blk_cell BV.out 2).trans rfl;have c3:w5.cell? ⟨gv,3,none⟩=some (.int .i64 (rd_T32 ys (j:Int)).f3.f0):=(blk_cell BV.out 3).trans rfl;have c4:w5.cell? ⟨gv,4,none⟩=some (.int .i64 (rd_T32 ys (j:Int)).f3.f1):=(blk_cell BV.out 4).trans rfl;have c5:w5.cell? ⟨gv,5,none⟩=some (.string (rd_T32 ys (j:Int)).f3.f2):=(blk_cell BV.out 5).trans rfl)|((with_reducible refine gate_store (t:=32) (p:=33) rfl ?_);obtain ⟨cc0,hc1,_,hc3,_⟩:=Kd.R_elem HO.out z32 (i:Int) (by omega) ix0;refine Kd.R_store k32 (w0:=w0) (o':=i * 6) w0.heap.size rfl rfl 32 (.tmp 33) (.tmp 32) rfl 32 (i:Int) 0 ys (rd_T32 ys (j:Int)) (.agg #[.int .i64 (rd_T32 ys (j:Int)).f0,.int .i64 (rd_T32 ys (j:Int)).f1,.int .i64 (rd_T32 ys (j:Int)).f2,.int .i64 (rd_T32 ys (j:Int)).f3.f0,.int .i64 (rd_T32 ys (j:Int)).f3.f1,.string (rd_T32 ys (j:Int)).f3.f2]) [.int .i64 (rd_T32 ys (j:Int)).f0,.int .i64 (rd_T32 ys (j:Int)).f1,.int .i64 (rd_T32 ys (j:Int)).f2,.int .i64 (rd_T32 ys (j:Int)).f3.f0,.int .i64 (rd_T32 ys (j:Int)).f3.f1,.string (rd_T32 ys (j:Int)).f3.f2] cc0 (fun _=>True) (fun _=>False) ?pa ?po (by first|rfl|(go_simp;done)) rfl (by kernel_rfl) (by intro q_ hq_;simp only [List.mem_cons,List.not_mem_nil,or_false] at hq_;rcases hq_ with rfl|rfl|rfl|rfl|rfl|rfl <;> rfl) HO.out (by omega) ix0 hc1 hc3 (Nat.le_refl 6) ?pm (fun _ h=>h.elim) HB.out ?_;(case pa=>first|rfl|(go_simp;done)|(simp [Act.eval,Act.put];done));(case po=>first|rfl|(simp;done));(case pm=>rw [List.take_zero,List.nil_append,List.drop_of_length_le (by rw [hc1];exact Nat.le_refl 6),List.append_nil];exact k32_mkM _ _ _ _);intro w6 ho hb hg;replace HO:=Aside0.mk (ho);replace HB:=Aside0.mk (hb);replace BA:=Aside0.mk (blk_grown BA.out hg (fun e=>NAB.out (Option.some.inj e)));clear ho hb hg hc1 hc3 c0 c1 c2 c3 c4 c5))
     go_roundg (xs.length - (j + 1))
     case measure=>have:=HI3.out;have:=HKq.out;omega
     case rel=>exact ⟨i + 1,j + 1,_,HI3.out,Nat.le_refl _,Nat.succ_lt_succ HI4.out,by go_num,by go_num,HY2,HX,HD2,HO,BA,HB⟩
   ·have hje:j=xs.length:=by omega
    subst hje
    have HX:=Aside0.mk (show ys.take i=xs.filter (fun x=>!decide (x.f0≤q)) by have:=HT2.out;rw [List.take_length] at this;exact this)
    have c1:decide ((xs.length:Int) < (xs.length:Int))=false:=decide_eq_false (by omega)
    have f1:(cc=i)=False:=eq_false (by omega)
    have f2:(i=cc)=False:=eq_false (by omega)
    have f3:i≤xs.length:=by omega
    have f4:(i:Int)≤(xs.length:Int):=by omega
    have f5:i≤cc:=by omega
    have f6:0≤(i:Int):=by omega
    have f7:(i:Int)≤(cc:Int):=by omega
    clear HLn HCn hlt hij hj
    go_wp2_with ((with_reducible refine gate_builtin (b:=.clear) (xs:=#[.tmp 38]) rfl ?_);refine ob_clear rfl rfl (.tmp 38) rfl (by first|rfl|(go_simp;done)) HO.out f3 HB.out ?_;intro w6 ho hb;have n0_:=Aside0.mk ho;have n1_:=Aside0.mk hb;clear HO HB ho hb;have HO:=n0_;have HB:=n1_;clear n0_ n1_)
    go_ret
    exact ⟨_,rfl,by rw [← HX.out];exact HO.out,HB.out⟩
theorem outbox_Box_Ack.nil_ (seq:Int) (w:World):Calls Tryd.prog 13 #[.pointer none,.int .i64 seq] w fun e w'=>e=.returned (.int .i64 1)∧Below w.heap.size w w':=by
 go_enter Tryd.func13,Tryd.ntmps13
 go_wp2
 go_ret
 exact ⟨rfl,below_alloc (Below.refl _ _) _⟩
set_option maxHeartbeats 8000000 in
set_option maxRecDepth 100000 in
theorem outbox_Box_Ack.far (seq:Int) (xs:List S32) (m l:Int) (g:Nat) (v:Value) (w0 w:World) (hX:ObX 56 w0 w g v xs m l) (hB:Below w0.heap.size w0 w) (hl:xs.length < 1000000000000) (h1:l < seq) :
  Calls Tryd.prog 13 #[.pointer (some ⟨g,0,none⟩),.int .i64 seq] w fun e w'=>∃ v',e=.returned (.int .i64 7)∧ObX 56 w0 w' g v' xs m l∧Below w0.heap.size w0 w'∧ObF w w' g v v':=by
 obtain ⟨A,cc,rfl⟩:=Kd.R_slice hX.2.2
 have hu56:=Tryd.underlying56
 have BG:=Aside0.mk hX.1
 have HGE:=Aside0.mk hX.2.1
 have HO:=Aside0.mk hX.2.2
 have HB:=Aside0.mk hB
 have HF:=Aside0.mk (ObF.refl w g (.slice A xs.length cc))
 have HL:=Aside0.mk hl
 have d0:decide (l < seq)=true:=decide_eq_true h1
 clear h1
 clear hX hB hl
 go_enter Tryd.func13,Tryd.ntmps13
 go_wp2_with ((with_reducible refine gate_dst (N:=3) rfl ?_);refine box_event ?hg (N:=3) ?hd (cs:=#[.int .i64 seq]) (t:=3) ?hr ?_;(case hd=>rfl);(case hg=>rfl);(case hr=>first|(go_simp;done)|(go_simp;rfl));intro ga hg w1 hbox hb;have BA:=Aside0.mk (hbox);replace HO:=Aside0.mk (Kd.R_below HO.out hb);replace HB:=Aside0.mk (below_step HB.out hb);replace HF:=Aside0.mk (HF.out.below hb);have NA:=Aside0.mk (show ga ≠ g by rw [hg];exact Nat.ne_of_gt (blk_lt BG.out));replace BG:=Aside0.mk (blk_below BG.out hb);clear hb hbox hg;)
 go_region_held3 (fun w'=>w'.cell? ⟨ga,0,none⟩=some (.int .i64 seq)∧w'.cell? ⟨g,2,none⟩=some (.int .i64 l)) (exact ⟨(blk_cell BA.out 0).trans rfl,(blk_cell BG.out 2).trans rfl⟩) (fail)
 go_wp2
 go_ret
 exact ⟨.slice A xs.length cc,rfl,⟨BG.out,HGE.out,HO.out⟩,below_drew1 HB.out,HF.out.below (below_drew1 (Below.refl _ _))⟩
set_option maxHeartbeats 8000000 in
set_option maxRecDepth 100000 in
theorem outbox_Box_Ack.low (seq:Int) (xs:List S32) (m l:Int) (g:Nat) (v:Value) (w0 w:World) (hX:ObX 56 w0 w g v xs m l) (hB:Below w0.heap.size w0 w) (hl:xs.length < 1000000000000) (h1:¬ l < seq) (h2:¬ m < seq) :
  Calls Tryd.prog 13 #[.pointer (some ⟨g,0,none⟩),.int .i64 seq] w fun e w'=>∃ v',e=.returned (.int .i64 0)∧ObX 56 w0 w' g v' xs m l∧Below w0.heap.size w0 w'∧ObF w w' g v v':=by
 obtain ⟨A,cc,rfl⟩:=Kd.R_slice hX.2.2
 have hu56:=Tryd.underlying56
 have BG:=Aside0.mk hX.1
 have HGE:=Aside0.mk hX.2.1
 have HO:=Aside0.mk hX.2.2
 have HB:=Aside0.mk hB
 have HF:=Aside0.mk (ObF.refl w g (.slice A xs.length cc))
 have HL:=Aside0.mk hl
 have d0:decide (l < seq)=false:=decide_eq_false h1
 have d1:decide (m < seq)=false:=decide_eq_false h2
 clear h1 h2
 clear hX hB hl
 go_enter Tryd.func13,Tryd.ntmps13
 go_wp2_with ((with_reducible refine gate_dst (N:=3) rfl ?_);refine box_event ?hg (N:=3) ?hd (cs:=#[.int .i64 seq]) (t:=3) ?hr ?_;(case hd=>rfl);(case hg=>rfl);(case hr=>first|(go_simp;done)|(go_simp;rfl));intro ga hg w1 hbox hb;have BA:=Aside0.mk (hbox);replace HO:=Aside0.mk (Kd.R_below HO.out hb);replace HB:=Aside0.mk (below_step HB.out hb);replace HF:=Aside0.mk (HF.out.below hb);have NA:=Aside0.mk (show ga ≠ g by rw [hg];exact Nat.ne_of_gt (blk_lt BG.out));replace BG:=Aside0.mk (blk_below BG.out hb);clear hb hbox hg;)
 go_region_held3 (fun w'=>w'.cell? ⟨ga,0,none⟩=some (.int .i64 seq)∧w'.cell? ⟨g,2,none⟩=some (.int .i64 l)) (exact ⟨(blk_cell BA.out 0).trans rfl,(blk_cell BG.out 2).trans rfl⟩) (fail)
 go_wp2
 go_region_held3 (fun w'=>w'.cell? ⟨ga,0,none⟩=some (.int .i64 seq)∧w'.cell? ⟨g,1,none⟩=some (.int .i64 m)) (exact ⟨(blk_cell BA.out 0).trans rfl,(blk_cell BG.out 1).trans rfl⟩) (fail)
 go_wp2
 go_ret
 exact ⟨.slice A xs.length cc,rfl,⟨BG.out,HGE.out,HO.out⟩,below_drew1 (below_drew1 HB.out),HF.out.below (below_drew1 (below_drew1 (Below.refl _ _)))⟩
set_option maxHeartbeats 8000000 in
set_option maxRecDepth 100000 in
theorem outbox_Box_Ack.go (seq:Int) (xs:List S32) (m l:Int) (g:Nat) (v:Value) (w0 w:World) (hX:ObX 56 w0 w g v xs m l) (hB:Below w0.heap.size w0 w) (hl:xs.length < 1000000000000) (h1:¬ l < seq) (h2:m < seq) :
  Calls Tryd.prog 13 #[.pointer (some ⟨g,0,none⟩),.int .i64 seq] w fun e w'=>∃ v',e=.returned (.int .i64 0)∧ObX 56 w0 w' g v' (xs.filter (fun x=>!decide (x.f0≤seq))) seq l∧Below w0.heap.size w0 w'∧ObF w w' g v v':=by
 obtain ⟨A,cc,rfl⟩:=Kd.R_slice hX.2.2
 have hu56:=Tryd.underlying56
 have BG:=Aside0.mk hX.1
 have HGE:=Aside0.mk hX.2.1
 have HO:=Aside0.mk hX.2.2
 have HB:=Aside0.mk hB
 have HF:=Aside0.mk (ObF.refl w g (.slice A xs.length cc))
 have HL:=Aside0.mk hl
 have d0:decide (l < seq)=false:=decide_eq_false h1
 have d1:decide (m < seq)=true:=decide_eq_true h2
 clear h1 h2
 clear hX hB hl
 go_enter Tryd.func13,Tryd.ntmps13
 go_wp2_with ((with_reducible refine gate_dst (N:=3) rfl ?_);refine box_event ?hg (N:=3) ?hd (cs:=#[.int .i64 seq]) (t:=3) ?hr ?_;(case hd=>rfl);(case hg=>rfl);(case hr=>first|(go_simp;done)|(go_simp;rfl));intro ga hg w1 hbox hb;have BA:=Aside0.mk (hbox);replace HO:=Aside0.mk (Kd.R_below HO.out hb);replace HB:=Aside0.mk (below_step HB.out hb);replace HF:=Aside0.mk (HF.out.below hb);have NA:=Aside0.mk (show ga ≠ g by rw [hg];exact Nat.ne_of_gt (blk_lt BG.out));replace BG:=Aside0.mk (blk_below BG.out hb);clear hb hbox hg;)
 go_region_held3 (fun w'=>w'.cell? ⟨ga,0,none⟩=some (.int .i64 seq)∧w'.cell? ⟨g,2,none⟩=some (.int .i64 l)) (exact ⟨(blk_cell BA.out 0).trans rfl,(blk_cell BG.out 2).trans rfl⟩) (fail)
 go_wp2
 go_region_held3 (fun w'=>w'.cell? ⟨ga,0,none⟩=some (.int .i64 seq)∧w'.cell? ⟨g,1,none⟩=some (.int .i64 m)) (exact ⟨(blk_cell BA.out 0).trans rfl,(blk_cell BG.out 1).trans rfl⟩) (fail)
 have n0_:=Aside0.mk (show (World.drew (World.drew w1)).heap[g]?=some (.cells #[.slice A xs.length cc,.int .i64 m,.int .i64 l] 56 (0,0)) from BG.out)
 have n1_:=Aside0.mk (show (World.drew (World.drew w1)).heap[ga]?=some (.cells #[.int .i64 seq] 3 (0,0)) from BA.out)
 have n2_:=Aside0.mk (show Kd.R k32 32 (World.drew (World.drew w1)) w0.heap.size (fun _=>True) (.slice A xs.length cc) xs from Kd.R_drew (Kd.R_drew HO.out))
 have n3_:=Aside0.mk (show Below w0.heap.size w0 (World.drew (World.drew w1)) from below_drew1 (below_drew1 HB.out))
 have n4_:=Aside0.mk (show ObF w (World.drew (World.drew w1)) g (.slice A xs.length cc) (.slice A xs.length cc) from HF.out.below (below_drew1 (below_drew1 (Below.refl _ _))))
 clear BG BA HO HB HF
 generalize World.drew (World.drew w1)=w2 at *
 have BG:=n0_
 have BA:=n1_
 have HO:=n2_
 have HB:=n3_
 have HF:=n4_
 clear n0_ n1_ n2_ n3_ n4_
 have ca:w2.cell? ⟨ga,0,none⟩=some (.int .i64 seq):=(blk_cell BA.out 0).trans rfl
 have cg0:w2.cell? ⟨g,0,none⟩=some (.slice A xs.length cc):=(blk_cell BG.out 0).trans rfl
 have cg1:w2.cell? ⟨g,1,none⟩=some (.int .i64 m):=(blk_cell BG.out 1).trans rfl
 have zg1:w2.frozen? ⟨g,1,none⟩=false:=blk_frozen BG.out 1
 go_wp2_with (fail)
 generalize hw3:World.setCell w2 ⟨g,1,none⟩ (.int .i64 seq)=w3
 have n0_:=Aside0.mk (show w3.heap[g]?=some (.cells #[.slice A xs.length cc,.int .i64 seq,.int .i64 l] 56 (0,0)) by rw [← hw3];simpa using blk_set BG.out 1 (.int .i64 seq))
 have n1_:=Aside0.mk (show w3.heap[ga]?=some (.cells #[.int .i64 seq] 3 (0,0)) by rw [← hw3];exact blk_far BA.out NA.out _)
 have n2_:=Aside0.mk (show Kd.R k32 32 w3 w0.heap.size (fun _=>True) (.slice A xs.length cc) xs by rw [← hw3];exact R32.put HO.out BG.out (by decide) 1 _)
 have n3_:=Aside0.mk (show Below w0.heap.size w0 w3 by rw [← hw3];exact below_set HB.out HGE.out)
 have n4_:=Aside0.mk (show ObF w w3 g (.slice A xs.length cc) (.slice A xs.length cc) by rw [← hw3];exact HF.out.put 1 _)
 clear BG BA HO HB HF hw3 ca cg0 cg1 zg1
 have BG:=n0_
 have BA:=n1_
 have HO:=n2_
 have HB:=n3_
 have HF:=n4_
 clear n0_ n1_ n2_ n3_ n4_
 have HCl:=Aside0.mk (ob_clone A cc xs w3 (Kd.R_reads' HO.out).2.2 (Kd.R_reads' HO.out).2.1 HL.out)
 go_wp2_with (first|(go_at_call 28;(with_reducible refine HCl.out.mono ?_);rintro e w4 ⟨v2,rfl,ho,hb⟩;have HO2:=Aside0.mk ho;have HW:=Aside0.mk hb;have HDl:=Aside0.mk (ob_delete seq ga v2 xs w3 w4 ho (blk_below BA.out hb) hb HL.out);clear ho hb)|(go_at_call 27;(with_reducible refine HDl.out.mono ?_);rintro e w5 ⟨v3,rfl,ho,hb⟩;obtain ⟨A3,c3,e3⟩:=Kd.R_slice ho;subst e3;have HO3:=Aside0.mk ho;have HW3:=Aside0.mk hb;clear ho hb;have z0:=blk_frozen (blk_below BG.out HW3.out) 0;have cg0:w5.cell? ⟨g,0,none⟩=some (.slice A xs.length cc):=(blk_cell (blk_below BG.out HW3.out) 0).trans rfl))
 go_ret
 have hb3:∀ k,(Value.slice A3 (xs.filter (fun x=>!decide (x.f0≤seq))).length c3).ownBlock=some k→w3.heap.size≤k:=fun k hk=>Kd.R_base HO3.out k hk
 refine ⟨.slice A3 (xs.filter (fun x=>!decide (x.f0≤seq))).length c3,rfl,⟨by simpa using blk_set (blk_below BG.out HW3.out) 0 (.slice A3 (xs.filter (fun x=>!decide (x.f0≤seq))).length c3),HGE.out,?_⟩,below_set (below_step HB.out HW3.out) HGE.out,?_⟩
 ·exact R32.put (Kd.R_lower HO3.out HB.out.size) (blk_below BG.out HW3.out) (by decide) 0 _
 ·exact ((HF.out.below HW3.out).swap (fun k hk=>Nat.le_trans HF.out.1 (hb3 k hk))).put 0 _
theorem ob_l0 (w0 W:World) (g:Nat) (v:Value) (hX:ObX 56 w0 W g v [] 0 0) (hB:Below w0.heap.size w0 W):Calls Tryd.prog 12 #[.pointer (some ⟨g,0,none⟩),.int .i64 1,.int .i64 0,.agg #[.int .i64 1,.int .i64 5,.string ⟨#[]⟩]] W fun e w'=>∃ v',e=.returned (.tuple #[.int .i64 1,.int .i64 0])∧ObX 56 w0 w' g v' [(⟨1,1,0,⟨1,5,⟨#[]⟩⟩⟩:S32)] 0 1∧Below w0.heap.size w0 w'∧ObF W w' g v v':=by
 obtain ⟨t1,t2,h⟩:∃ t1 t2,outbox_Write.f 64 (wrap64 (0 + 1)) 1 0 1 5 ⟨#[]⟩=some (t1,t2,0):=by
  have h:(outbox_Write.f 64 (wrap64 (0 + 1)) 1 0 1 5 ⟨#[]⟩).map (fun t=>t.2.2)=some 0:=by kernel_rfl
  obtain ⟨⟨a,b,c⟩,h1,h2⟩:=Option.map_eq_some_iff.1 h
  exact ⟨a,b,by rw [h1];simp only at h2;rw [h2]⟩
 have:=outbox_Box_Add.ok_ 64 1 0 1 5 ⟨#[]⟩ [] 0 0 g v t1 t2 0 w0 W hX hB (by simp) h
 rw [show wrap64 (0 + 1)=1 from (IntWalk.wrap64_in _ ⟨by omega,by omega⟩).trans (by omega)] at this
 exact this
theorem ob_l1 (w0 W:World) (g:Nat) (v:Value) (hX:ObX 56 w0 W g v [(⟨1,1,0,⟨1,5,⟨#[]⟩⟩⟩:S32)] 0 1) (hB:Below w0.heap.size w0 W):Calls Tryd.prog 12 #[.pointer (some ⟨g,0,none⟩),.int .i64 1,.int .i64 1,.agg #[.int .i64 1,.int .i64 6,.string ⟨#[]⟩]] W fun e w'=>∃ v',e=.returned (.tuple #[.int .i64 2,.int .i64 0])∧ObX 56 w0 w' g v' [(⟨1,1,0,⟨1,5,⟨#[]⟩⟩⟩:S32),(⟨2,1,1,⟨1,6,⟨#[]⟩⟩⟩:S32)] 0 2∧Below w0.heap.size w0 w'∧ObF W w' g v v':=by
 obtain ⟨t1,t2,h⟩:∃ t1 t2,outbox_Write.f 64 (wrap64 (1 + 1)) 1 1 1 6 ⟨#[]⟩=some (t1,t2,0):=by
  have h:(outbox_Write.f 64 (wrap64 (1 + 1)) 1 1 1 6 ⟨#[]⟩).map (fun t=>t.2.2)=some 0:=by kernel_rfl
  obtain ⟨⟨a,b,c⟩,h1,h2⟩:=Option.map_eq_some_iff.1 h
  exact ⟨a,b,by rw [h1];simp only at h2;rw [h2]⟩
 have:=outbox_Box_Add.ok_ 64 1 1 1 6 ⟨#[]⟩ [(⟨1,1,0,⟨1,5,⟨#[]⟩⟩⟩:S32)] 0 1 g v t1 t2 0 w0 W hX hB (by simp) h
 rw [show wrap64 (1 + 1)=2 from (IntWalk.wrap64_in _ ⟨by omega,by omega⟩).trans (by omega)] at this
 exact this
theorem ob_l2 (w0 W:World) (g:Nat) (v:Value) (hX:ObX 56 w0 W g v [(⟨1,1,0,⟨1,5,⟨#[]⟩⟩⟩:S32),(⟨2,1,1,⟨1,6,⟨#[]⟩⟩⟩:S32)] 0 2) (hB:Below w0.heap.size w0 W):Calls Tryd.prog 12 #[.pointer (some ⟨g,0,none⟩),.int .i64 2,.int .i64 0,.agg #[.int .i64 1,.int .i64 7,.string ⟨#[]⟩]] W fun e w'=>∃ v',e=.returned (.tuple #[.int .i64 3,.int .i64 0])∧ObX 56 w0 w' g v' [(⟨1,1,0,⟨1,5,⟨#[]⟩⟩⟩:S32),(⟨2,1,1,⟨1,6,⟨#[]⟩⟩⟩:S32),(⟨3,2,0,⟨1,7,⟨#[]⟩⟩⟩:S32)] 0 3∧Below w0.heap.size w0 w'∧ObF W w' g v v':=by
 obtain ⟨t1,t2,h⟩:∃ t1 t2,outbox_Write.f 64 (wrap64 (2 + 1)) 2 0 1 7 ⟨#[]⟩=some (t1,t2,0):=by
  have h:(outbox_Write.f 64 (wrap64 (2 + 1)) 2 0 1 7 ⟨#[]⟩).map (fun t=>t.2.2)=some 0:=by kernel_rfl
  obtain ⟨⟨a,b,c⟩,h1,h2⟩:=Option.map_eq_some_iff.1 h
  exact ⟨a,b,by rw [h1];simp only at h2;rw [h2]⟩
 have:=outbox_Box_Add.ok_ 64 2 0 1 7 ⟨#[]⟩ [(⟨1,1,0,⟨1,5,⟨#[]⟩⟩⟩:S32),(⟨2,1,1,⟨1,6,⟨#[]⟩⟩⟩:S32)] 0 2 g v t1 t2 0 w0 W hX hB (by simp) h
 rw [show wrap64 (2 + 1)=3 from (IntWalk.wrap64_in _ ⟨by omega,by omega⟩).trans (by omega)] at this
 exact this
theorem ob_l3 (w0 W:World) (g:Nat) (v:Value) (hX:ObX 56 w0 W g v [(⟨1,1,0,⟨1,5,⟨#[]⟩⟩⟩:S32),(⟨2,1,1,⟨1,6,⟨#[]⟩⟩⟩:S32),(⟨3,2,0,⟨1,7,⟨#[]⟩⟩⟩:S32)] 0 3) (hB:Below w0.heap.size w0 W):Calls Tryd.prog 13 #[.pointer (some ⟨g,0,none⟩),.int .i64 2] W fun e w'=>∃ v',e=.returned (.int .i64 0)∧ObX 56 w0 w' g v' [(⟨3,2,0,⟨1,7,⟨#[]⟩⟩⟩:S32)] 2 3∧Below w0.heap.size w0 w'∧ObF W w' g v v' :=
 outbox_Box_Ack.go 2 [(⟨1,1,0,⟨1,5,⟨#[]⟩⟩⟩:S32),(⟨2,1,1,⟨1,6,⟨#[]⟩⟩⟩:S32),(⟨3,2,0,⟨1,7,⟨#[]⟩⟩⟩:S32)] 0 3 g v w0 W hX hB (by simp) (by decide) (by decide)
theorem ob_l4 (w0 W:World) (g:Nat) (v:Value) (hX:ObX 56 w0 W g v [(⟨3,2,0,⟨1,7,⟨#[]⟩⟩⟩:S32)] 2 3):Calls Tryd.prog 17 #[.pointer (some ⟨g,0,none⟩),.int .i64 0,.int .i64 9] W fun e w'=>∃ v',e=.returned v'∧Kd.R k32 32 w' W.heap.size (fun _=>True) v' [(⟨3,2,0,⟨1,7,⟨#[]⟩⟩⟩:S32)]∧Below W.heap.size W w' :=
 outbox_Box_From.bx 0 9 [(⟨3,2,0,⟨1,7,⟨#[]⟩⟩⟩:S32)] 2 3 g v w0 W hX (by simp)
set_option maxHeartbeats 8000000 in
set_option maxRecDepth 100000 in
theorem factotumlaw19_lives.walk (w:World):Calls Tryd.prog 8 #[] w fun e w'=>e=.returned (.bool true)∧Below w.heap.size w w':=by
 have hu32:=Tryd.underlying32
 have hu30:=Tryd.underlying30
 have hu27:=Tryd.underlying27
 have HB:=Aside0.mk (Below.refl w.heap.size w)
 go_enter Tryd.func8,Tryd.ntmps8
 go_wp2_with (first|(go_at_call 10;(with_reducible refine (outbox_New.bx w _ HB.out).mono ?_);rintro e w1 ⟨g,rfl,hx,hb,hb2,hg⟩;have HX:=Aside0.mk (hx);replace HB:=Aside0.mk (hb);clear hx hb hb2 hg)|(go_at_call 26;(with_reducible refine (factotumlaw19_num.calls 5 1 5 ⟨#[]⟩ _ rfl).mono ?_);rintro e w2 ⟨rfl,hb⟩;replace HX:=Aside0.mk (HX.out.below hb);replace HB:=Aside0.mk (below_step HB.out hb);clear hb)|(go_at_call 26;(with_reducible refine (factotumlaw19_num.calls 6 1 6 ⟨#[]⟩ _ rfl).mono ?_);rintro e w2 ⟨rfl,hb⟩;replace HX:=Aside0.mk (HX.out.below hb);replace HB:=Aside0.mk (below_step HB.out hb);clear hb)|(go_at_call 26;(with_reducible refine (factotumlaw19_num.calls 7 1 7 ⟨#[]⟩ _ rfl).mono ?_);rintro e w2 ⟨rfl,hb⟩;replace HX:=Aside0.mk (HX.out.below hb);replace HB:=Aside0.mk (below_step HB.out hb);clear hb)|(go_at_call 12;(with_reducible refine (ob_l0 w _ g _ HX.out HB.out).mono ?_);rintro e w3 ⟨v3,rfl,hx,hb,hf⟩;replace HX:=Aside0.mk (hx);replace HB:=Aside0.mk (hb);clear hx hb hf)|(go_at_call 12;(with_reducible refine (ob_l1 w _ g _ HX.out HB.out).mono ?_);rintro e w3 ⟨v3,rfl,hx,hb,hf⟩;replace HX:=Aside0.mk (hx);replace HB:=Aside0.mk (hb);clear hx hb hf)|(go_at_call 12;(with_reducible refine (ob_l2 w _ g _ HX.out HB.out).mono ?_);rintro e w3 ⟨v3,rfl,hx,hb,hf⟩;replace HX:=Aside0.mk (hx);replace HB:=Aside0.mk (hb);clear hx hb hf)|(go_at_call 13;(with_reducible refine (ob_l3 w _ g _ HX.out HB.out).mono ?_);rintro e w4 ⟨v4,rfl,hx,hb,hf⟩;replace HX:=Aside0.mk (hx);replace HB:=Aside0.mk (hb);clear hx hb hf)|(go_at_call 17;(with_reducible refine (ob_l4 w _ g _ HX.out).mono ?_);rintro e w5 ⟨v5,rfl,ho,hb⟩;obtain ⟨A5,c5,e5⟩:=Kd.R_slice ho;subst e5;have HQ:=Aside0.mk ho;replace HX:=Aside0.mk (HX.out.below hb);replace HB:=Aside0.mk (below_step HB.out hb);clear ho hb))
 obtain ⟨ad,e1,x0,x1,x2,x3,x4,x5⟩:=at_T32 (Kd.R_reads' HQ.out).2.2 0 (by decide) (by decide)
 cases e1
 have y0:w5.cell? ad=some (.int .i64 3):=by simpa [rd_T32,Addr.add] using x0
 have y3:w5.cell? ⟨ad.block,ad.off + 3,none⟩=some (.int .i64 1):=by simpa [rd_T32,Addr.add] using x3
 have y4:w5.cell? ⟨ad.block,ad.off + 4,none⟩=some (.int .i64 7):=by simpa [rd_T32,Addr.add] using x4
 have y5:w5.cell? ⟨ad.block,ad.off + 5,none⟩=some (.string ⟨#[]⟩):=by simpa [rd_T32,Addr.add] using x5
 have YY:=Aside0.mk (And.intro y0 (And.intro y3 (And.intro y4 y5)))
 have HXd:=Aside0.mk HX.out.drew
 have HBd:=Aside0.mk (below_drew1 HB.out)
 have YYd:=Aside0.mk (show w5.drew.cell? ad=some (.int .i64 3)∧w5.drew.cell? ⟨ad.block,ad.off + 3,none⟩=some (.int .i64 1)∧w5.drew.cell? ⟨ad.block,ad.off + 4,none⟩=some (.int .i64 7)∧w5.drew.cell? ⟨ad.block,ad.off + 5,none⟩=some (.string ⟨#[]⟩) from ⟨y0,y3,y4,y5⟩)
 clear x0 x1 x2 x3 x4 x5 y0 y3 y4 y5
 go_region_held3 (fun w'=>w'.cell? ad=some (.int .i64 3)∧w'.cell? ⟨ad.block,ad.off + 3,none⟩=some (.int .i64 1)∧w'.cell? ⟨ad.block,ad.off + 4,none⟩=some (.int .i64 7)∧w'.cell? ⟨ad.block,ad.off + 5,none⟩=some (.string ⟨#[]⟩)) (exact YY.out) (first|(go_at_call 26;(with_reducible refine (factotumlaw19_num.calls 7 1 7 ⟨#[]⟩ _ rfl).mono ?_);rintro e w6 ⟨rfl,hb⟩;replace HX:=Aside0.mk (HXd.out.below hb);replace HB:=Aside0.mk (below_step HBd.out hb);replace YY:=Aside0.mk (And.intro ((hb.cell (World.block_lt_of_cell? _ _ YYd.out.1)).trans YYd.out.1) (And.intro ((hb.cell (World.block_lt_of_cell? _ _ YYd.out.2.1)).trans YYd.out.2.1) (And.intro ((hb.cell (World.block_lt_of_cell? _ _ YYd.out.2.2.1)).trans YYd.out.2.2.1) ((hb.cell (World.block_lt_of_cell? _ _ YYd.out.2.2.2)).trans YYd.out.2.2.2))));clear hb)|(go_at_call 14;(with_reducible refine (outbox_Box_Mark.bx w _ g _ _ 2 3 HX.out).mono ?_);rintro e w7 ⟨rfl,rfl⟩))
 all_goals (go_wp2;go_ret;exact ⟨rfl,HB.out⟩)
def factotumlaw19_lives.f:Option Bool:=some true
theorem factotumlaw19_lives.calls (r:Bool) (w:World) (h:factotumlaw19_lives.f=some r):Calls Tryd.prog 8 #[] w fun e w'=>e=.returned (.bool r)∧Below w.heap.size w w':=by
 obtain rfl:true=r:=Option.some.inj h
 exact factotumlaw19_lives.walk w

end Go.Proofs.YtnlfppfdfdopiaaDoor.PAll
