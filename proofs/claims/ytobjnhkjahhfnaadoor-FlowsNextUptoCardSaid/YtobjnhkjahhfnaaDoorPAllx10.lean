/- Printed walks of the functions that the laws reach: each function, what it computes, and that it does. No conditions. -/
import Derived.Test.YtobjnhkjahhfnaaDoorPAllx0
namespace Go.Proofs.YtobjnhkjahhfnaaDoor.PAll
open Go.RowKit Go.Proofs.YtobjnhkjahhfnaaDoor.XW Go.Proofs.YtobjnhkjahhfnaaDoor.XLib Go.Proofs.YtobjnhkjahhfnaaDoorW.PrintWords Go.Proofs.YtobjnhkjahhfnaaDoorW.PrintLast Go.Proofs.YtobjnhkjahhfnaaDoorW.PrintMore
attribute [local go_sem] max2_int min2_int max_two min_two max_three min_three max_four min_four   -- for this text's walks alone
set_option linter.unusedVariables false
set_option linter.unusedSimpArgs false

/-! ### api_Value_32: function 32 -/
def api_Value_32.f (l0:List (S24)):Option (List (S24)):=if l0.length < 4398046511104 then some l0 else none
set_option maxHeartbeats 4000000 in
set_option maxRecDepth 100000 in
theorem api_Value_32.calls (A0:Option Addr) (c0:Nat) (l0:List (S24)) (r:List (S24)) (w:World) (hr0:Kd.C k24 w A0 l0.length l0) (hc0:l0.length≤c0) (h:api_Value_32.f l0=some r) :
  Calls Tryd.prog 32 #[.slice A0 l0.length c0] w fun e w'=>∃ v0_:Value,e=.returned (v0_)∧Kd.R k24 24 w' w.heap.size (fun _=>True) v0_ r∧Below w.heap.size w w':=by
 unfold api_Value_32.f at h
 split at h
 case isFalse=>cases h
 rename_i hl
 obtain rfl:=Option.some.inj h
 have hu:=Tryd.underlying26
 have q_:∀ (w:World) (a:Option Addr) (n c n' c':Nat),(binOp .eql 26 (.slice a n c) (.slice none n' c')).run Tryd.prog w=.ok (.bool a.isNone) w:=fun w a n c n' c'=>Lib.run_eql_slice_nil w _ _ a n c n' c' hu
 cases A0 with
 | none =>
  obtain rfl:l0=[]:=by
   rcases l0 with _|⟨x,l⟩
   ·rfl
   ·obtain ⟨ad,h,_⟩:=hr0.2.2 (Nat.succ_pos _)
    cases h
  clear hr0
  go_enter Tryd.func32,Tryd.ntmps32
  go_wp2
  go_ret
  exact ⟨_,rfl,Kd.R_nil _ _ _ _ _,Below.refl _ _⟩
 | some a =>
  have HR:=Aside0.mk hr0
  have HL:=Aside0.mk hl
  clear hr0 hl
  go_enter Tryd.func32,Tryd.ntmps32
  go_wp2_with (at_builtin;refine Kd.R_append_rows k24 (w0:=w) w.heap.size rfl _ _ 26 24 (.agg #[(.int .i64 0),(.int .i64 0),(.string ⟨#[]⟩)]) 32 rfl Tryd.underlying26 info24 rfl (by decide) (by omega) _ [] l0 _ _ _ (fun _=>True) (fun _=>False) rfl rfl ?aO ?aR (fun _ _ h=>h) (fun _ h=>h.elim) (fun _ _=>trivial) ?aB ?aS ?aL ?_;(case aR=>exact Kd.C_alloc HR.out _);(case aO=>exact ⟨fun _ _=>trivial,[],World.ownsRow_made w #[] 0 (Nat.le_refl _) (Nat.zero_le _) rfl,Reps.none _ _⟩);(case aB=>exact below_alloc (Below.refl _ _) _);(case aS=>rw [World.size_alloc];exact Nat.le_succ _);(case aL=>have:=HL.out;simp only [List.length_nil];omega);intro v1 w1 ho hb hg hat)
  rw [List.nil_append] at ho
  go_wp2
  go_ret
  exact ⟨_,rfl,ho,hb⟩

/-! ### flows_fault: function 34 -/
def flows_fault.f (a0:Int):Option (Int × Int × ByteArray):=some (1,a0,(⟨#[]⟩:ByteArray))
set_option maxHeartbeats 8000000 in
set_option maxRecDepth 100000 in
theorem flows_fault.calls (a0:Int) (r1:Int) (r2:Int) (r3:ByteArray) (w:World) (h:flows_fault.f a0=some (r1,r2,r3)) :
  Calls Tryd.prog 34 #[.int .i64 a0] w fun e w'=>e=.returned (.agg #[.int .i64 r1,.int .i64 r2,.string r3])∧Below w.heap.size w w':=by
 have hu24:=Tryd.underlying24
 have HB:=Aside0.mk (Below.refl w.heap.size w)
 have H:(some (1,a0,(⟨#[]⟩:ByteArray)))=some (r1,r2,r3):=h
 clear h
 simp only [Option.some.injEq,Prod.mk.injEq] at H
 obtain ⟨rfl,rfl,rfl⟩:=H
 go_enter Tryd.func34,Tryd.ntmps34
 go_wp2_with (first|((with_reducible refine gate_dst (N:=2) rfl ?_);refine box_event ?hg (N:=2) ?hd (cs:=#[.int .i64 0,.int .i64 0,.string (⟨#[]⟩:ByteArray)]) (t:=24) ?hr ?_;(case hd=>rfl);(case hg=>rfl);(case hr=>first|(go_simp;done)|(go_simp;rfl));intro gb174 hg w2 hbox hb;have BK174:=Aside0.mk (hbox);have GW174:=Aside0.mk ((by rw [hg];exact (below_size (by repeat (first|(with_reducible first|exact HB.out|apply zl1|apply zl2|apply zl3)|exact HB.out))):w.heap.size≤gb174));have GE174:=Aside0.mk ((by rw [hg];exact (below_size (by repeat (first|(with_reducible first|exact HB.out|apply zl1|apply zl2|apply zl3)|exact HB.out))):w.heap.size≤gb174));replace HB:=Aside0.mk (below_step (by repeat (first|(with_reducible first|exact HB.out|apply zl1|apply zl2|apply zl3)|exact HB.out)) hb);clear hb hbox hg;obtain ⟨hcz3_0,hcz3_1,hcz3_2⟩:=zc3 BK174.out;obtain ⟨hfz3_0,hfz3_1,hfz3_2⟩:=zf3 BK174.out))
 refine bodyPost_ret (results_cell_row rfl _ _ gb174 24 #[.int .i64 1,.int .i64 a0,.string (⟨#[]⟩:ByteArray)] (0,0) _ rfl (by apply zpe;(repeat (first|(with_reducible first|apply zb1|apply zb2|apply zb3|apply zpi|exact BK174.out)));rfl) Tryd.underlying24 rfl (by kernel_rfl)) rfl ?_
 exact ⟨by first|(with_reducible rfl)|(simp only [isEmpty_bne,Bool.not_not] <;> rfl)|rfl|(simp [*,errW_none,errW_some] <;> rfl),by repeat (first|(with_reducible first|exact HB.out|apply zl1|apply zl2|apply zl3|refine below_set ?_ GE174.out)|exact HB.out)⟩

/-! ### flows_end: function 33 -/
set_option maxHeartbeats 4000000 in
set_option maxRecDepth 100000 in
theorem flows_end.calls (g:Nat) (a1 v0 v1:Int) (v2:ByteArray) (c0 c1 c2 c3 c4 c5 c6 c7 c8 c9 c10 c11 c12 c13:Value) (w:World) (hg:w.heap[g]?=some (.cells #[c0,c1,c2,c3,c4,c5,c6,c7,c8,c9,c10,c11,c12,c13] 30 (0,0))) :
  Calls Tryd.prog 33 #[.pointer (some ⟨g,0,none⟩),.int .i64 a1,.agg #[.int .i64 v0,.int .i64 v1,.string v2]] w fun e w'=>e=.returned (.tuple #[])∧w'.heap[g]?=some (.cells #[c0,c1,c2,c3,c4,.int .i64 a1,c6,.int .i64 0,.int .i64 v0,.int .i64 v1,.string v2,.int .i64 0,.slice none 0 0,c13] 30 (0,0))∧w.grownBy w' (some g):=by
 have BG:=Aside0.mk hg
 have LT:=Aside0.mk (blk_lt hg)
 have NE:=Aside0.mk (Nat.ne_of_lt (blk_lt hg))
 clear hg
 have hu30:=Tryd.underlying30
 have hu24:=Tryd.underlying24
 have hu28:=Tryd.underlying28
 go_enter Tryd.func33,Tryd.ntmps33
 go_wp2_with ((with_reducible refine gate_dst (N:=5) rfl ?_);refine box_event ?hg (N:=5) ?hd (cs:=#[.int .i64 v0,.int .i64 v1,.string v2]) (t:=24) ?hr ?_;(case hd=>rfl);(case hg=>rfl);(case hr=>first|(go_simp;done)|(go_simp;rfl));intro gb hgb w1 hbox hb;subst hgb;have BG1:=Aside0.mk (blk_below BG.out hb);have HB:=Aside0.mk hb;have BB:=Aside0.mk hbox;clear hb hbox)
 have hne:=NE.out
 have hne2:=Ne.symm NE.out
 have k0:w1.cell? ⟨w.heap.size,0,none⟩=some (.int .i64 v0):=(blk_cell BB.out 0).trans rfl
 have k1:w1.cell? ⟨w.heap.size,1,none⟩=some (.int .i64 v1):=(blk_cell BB.out 1).trans rfl
 have k2:w1.cell? ⟨w.heap.size,2,none⟩=some (.string v2):=(blk_cell BB.out 2).trans rfl
 have h5:w1.cell? ⟨g,5,none⟩=some c5:=(blk_cell BG1.out 5).trans rfl
 have h7:w1.cell? ⟨g,7,none⟩=some c7:=(blk_cell BG1.out 7).trans rfl
 have h8:w1.cell? ⟨g,8,none⟩=some c8:=(blk_cell BG1.out 8).trans rfl
 have h9:w1.cell? ⟨g,9,none⟩=some c9:=(blk_cell BG1.out 9).trans rfl
 have h10:w1.cell? ⟨g,10,none⟩=some c10:=(blk_cell BG1.out 10).trans rfl
 have h11:w1.cell? ⟨g,11,none⟩=some c11:=(blk_cell BG1.out 11).trans rfl
 have h12:w1.cell? ⟨g,12,none⟩=some c12:=(blk_cell BG1.out 12).trans rfl
 have f5:=blk_frozen BG1.out 5
 have f7:=blk_frozen BG1.out 7
 have f8:=blk_frozen BG1.out 8
 have f9:=blk_frozen BG1.out 9
 have f10:=blk_frozen BG1.out 10
 have f11:=blk_frozen BG1.out 11
 have f12:=blk_frozen BG1.out 12
 go_region
 all_goals
  go_wp2
  have gset:∀ (W:World) (j:Nat) (u:Value),w.grownBy W (some g)→w.grownBy (W.setCell ⟨g,j,none⟩ u) (some g):=fun W j u h=>⟨h.os,h.tape,h.output,by rw [World.size_setCell];exact h.size,fun k hk hn=>(Below.heap_setCell W ⟨g,j,none⟩ u k (fun e=>hn (by rw [e]))).trans (h.block k hk hn)⟩
  have gdrew:∀ W:World,w.grownBy W (some g)→w.grownBy W.drew (some g):=fun W h=>⟨h.os,h.tape,h.output,h.size,h.block⟩
  refine bodyPost_end (v:=.tuple #[]) (by simp [results,Tryd.results33,go_sem]) rfl ⟨rfl,?_,?_⟩
  ·refine blk_drew ?_
   refine blk_put (cs:=#[c0,c1,c2,c3,c4,.int .i64 a1,c6,.int .i64 0,.int .i64 v0,.int .i64 v1,.string v2,.int .i64 0,c12,c13]) ?_ 12 _ rfl
   refine blk_put (cs:=#[c0,c1,c2,c3,c4,.int .i64 a1,c6,.int .i64 0,.int .i64 v0,.int .i64 v1,.string v2,c11,c12,c13]) ?_ 11 _ rfl
   refine blk_put (cs:=#[c0,c1,c2,c3,c4,.int .i64 a1,c6,c7,.int .i64 v0,.int .i64 v1,.string v2,c11,c12,c13]) ?_ 7 _ rfl
   refine blk_put (cs:=#[c0,c1,c2,c3,c4,.int .i64 a1,c6,c7,.int .i64 v0,.int .i64 v1,c10,c11,c12,c13]) ?_ 10 _ rfl
   refine blk_put (cs:=#[c0,c1,c2,c3,c4,.int .i64 a1,c6,c7,.int .i64 v0,c9,c10,c11,c12,c13]) ?_ 9 _ rfl
   refine blk_put (cs:=#[c0,c1,c2,c3,c4,.int .i64 a1,c6,c7,c8,c9,c10,c11,c12,c13]) ?_ 8 _ rfl
   refine blk_put (cs:=#[c0,c1,c2,c3,c4,c5,c6,c7,c8,c9,c10,c11,c12,c13]) ?_ 5 _ rfl
   exact BG1.out
  ·refine gdrew _ ?_
   iterate 7 (with_reducible refine gset _ _ _ ?_)
   exact grown_of_below HB.out (some g)

end Go.Proofs.YtobjnhkjahhfnaaDoor.PAll
