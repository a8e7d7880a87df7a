/- Printed walks of the functions that the laws reach: each function, what it computes, and that it does. No conditions. -/
import Derived.Test.YtljfichnlgfikaaDoorPAllx0
import Derived.Test.YtljfichnlgfikaaDoorPAllx22
import Derived.Test.YtljfichnlgfikaaDoorPAllx25
namespace Go.Proofs.YtljfichnlgfikaaDoor.PAll
open Go.RowKit Go.Proofs.YtljfichnlgfikaaDoor.XW Go.Proofs.YtljfichnlgfikaaDoor.XLib Go.Proofs.YtljfichnlgfikaaDoorW.PrintWords Go.Proofs.YtljfichnlgfikaaDoorW.PrintLast Go.Proofs.YtljfichnlgfikaaDoorW.PrintMore
attribute [local go_sem] max2_int min2_int max_two min_two max_three min_three max_four min_four   -- for this text's walks alone
set_option linter.unusedVariables false
set_option linter.unusedSimpArgs false

/-! ### factotumref13_Read: function 12 -/
def factotumref13_Read.l0:Nat→List (S42)→ByteArray→Int→Int→Option ((List (S42)) × Int)
 | 0,_,_,_,_=>none
 | k + 1,x5,x277000,x277001,x277002=>(factotumref01_Reader_Left.f x277000 x277001 x277002).bind fun bt277=>(if bt277.1 > 0 then (if (x5.length:Int) ≥ 64 then (some (([]:List (S42)),3)) else ((factotumref13_read.f k bt277.2.1 bt277.2.2.1 bt277.2.2.2).bind fun bt281=>(if bt281.2.2.2.2.2.2.2.1=0 then (if x5.length < 2199023255552 then (factotumref13_Read.l0 k (x5 ++ [(⟨bt281.1,bt281.2.1,bt281.2.2.1,bt281.2.2.2.1,(⟨bt281.2.2.2.2.1,bt281.2.2.2.2.2.1,bt281.2.2.2.2.2.2.1⟩:S40)⟩:S42)]) bt281.2.2.2.2.2.2.2.2.1 bt281.2.2.2.2.2.2.2.2.2.1 bt281.2.2.2.2.2.2.2.2.2.2) else (none)) else (some (([]:List (S42)),bt281.2.2.2.2.2.2.2.1))))) else (some (x5,0)))
def factotumref13_Read.f (k:Nat) (a0:ByteArray):Option ((List (S42)) × Int):=factotumref13_Read.l0 k ([]:List (S42)) a0 0 0
theorem factotumref13_Read.mono_l:∀ k,(∀ y0 y1 y2 y3,LeO (factotumref13_Read.l0 k y0 y1 y2 y3) (factotumref13_Read.l0 (k + 1) y0 y1 y2 y3))
 | 0=>fun _ _ _ _ r h=>by simp [factotumref13_Read.l0] at h
 | k + 1=>by
  have ih0:=factotumref13_Read.mono_l k
  ·intro y0 y1 y2 y3
   unfold factotumref13_Read.l0
   repeat' first
   | (with_reducible exact ih0 _ _ _ _)
   | (with_reducible exact factotumref13_read.mono _ _ _ _)
   | (with_reducible exact LeO.refl _)
   | (with_reducible exact LeO.none _)
   | (with_reducible refine LeO.ite ?_ ?_)
   | (with_reducible refine LeO.bind ?_ (fun _=>?_))
   | exact ih0 _ _ _ _
   | exact factotumref13_read.mono _ _ _ _
   | exact LeO.none _
   | refine LeO.ite ?_ ?_
   | refine LeO.bind ?_ (fun _=>?_)
theorem factotumref13_Read.mono:∀ a0 k,LeO (factotumref13_Read.f k a0) (factotumref13_Read.f (k + 1) a0):=by
 intro a0 k
 have ih0:=factotumref13_Read.mono_l k
 unfold factotumref13_Read.f
 repeat' first
   | (with_reducible exact ih0 _ _ _ _)
   | (with_reducible exact factotumref13_read.mono _ _ _ _)
   | (with_reducible exact LeO.refl _)
   | (with_reducible exact LeO.none _)
   | (with_reducible refine LeO.ite ?_ ?_)
   | (with_reducible refine LeO.bind ?_ (fun _=>?_))
   | exact ih0 _ _ _ _
   | exact factotumref13_read.mono _ _ _ _
   | exact LeO.none _
   | refine LeO.ite ?_ ?_
   | refine LeO.bind ?_ (fun _=>?_)
set_option maxHeartbeats 8000000 in
set_option maxRecDepth 100000 in
theorem factotumref13_Read.calls (k:Nat) (a0:ByteArray) (r1:List (S42)) (r2:Int) (w:World) (h:factotumref13_Read.f k a0=some (r1,r2)) :
  Calls Tryd.prog 12 #[.string a0] w fun e w'=>∃ v0_:Value,e=.returned (.tuple #[v0_,.int .i64 r2])∧Kd.R k42 42 w' w.heap.size (fun _=>True) v0_ r1∧Below w.heap.size w w':=by
 have hu57:=Tryd.underlying57
 have hu42:=Tryd.underlying42
 have HB:=Aside0.mk (Below.refl w.heap.size w)
 have H:(factotumref13_Read.l0 k ([]:List (S42)) a0 0 0)=some (r1,r2):=h
 clear h
 have H':=Aside0.mk H
 clear H
 go_enter Tryd.func12,Tryd.ntmps12
 go_wp2_with (first|((with_reducible refine gate_dst (N:=10) rfl ?_);refine box_event ?hg (N:=10) ?hd (cs:=#[.string a0,.int .i64 0,.int .i64 0]) (t:=57) ?hr ?_;(case hd=>rfl);(case hg=>rfl);(case hr=>first|(go_simp;done)|(go_simp;rfl));intro gb276 hg w2 hbox hb;have HI276:=Aside0.mk ((show IsS57 w _ gb276 a0 0 0 from ⟨hbox,(by rw [hg];exact (below_size (by repeat (first|(with_reducible first|exact HB.out|apply zl1|apply zl2|apply zl3)|exact HB.out))):w.heap.size≤gb276)⟩));have GW276:=Aside0.mk ((by rw [hg];exact (below_size (by repeat (first|(with_reducible first|exact HB.out|apply zl1|apply zl2|apply zl3)|exact HB.out))):w.heap.size≤gb276));have GE276:=Aside0.mk ((by rw [hg];exact (below_size (by repeat (first|(with_reducible first|exact HB.out|apply zl1|apply zl2|apply zl3)|exact HB.out))):w.heap.size≤gb276));replace HB:=Aside0.mk (below_step (by repeat (first|(with_reducible first|exact HB.out|apply zl1|apply zl2|apply zl3)|exact HB.out)) hb);clear hb hbox hg))
 go_loopg [5] k (fun kq v5 w'=>∃ (x5_1:List (S42)) (x277000_1:ByteArray) (x277001_1:Int) (x277002_1:Int),Aside0 (factotumref13_Read.l0 kq x5_1 x277000_1 x277001_1 x277002_1=some (r1,r2))∧Aside0 (kq≤k)∧Aside0 (Kd.R k42 42 w' w.heap.size (fun _=>True) v5 x5_1)∧Aside0 (IsS57 w w' gb276 x277000_1 x277001_1 x277002_1)∧Aside0 (Below w.heap.size w w'))
 case atStart=>exact ⟨(([]:List (S42))),(a0),(0),(0),H',⟨Nat.le_refl _⟩,⟨by first|exact Kd.R_nil _ _ _ _ _|exact Kd.N_nil _ _ _ _ _|exact Kd.V_nil _ _ _ _ _|exact Kd.Q_nil _ _ _ _ _|exact Kd.S_nil _ _ _ _ _⟩,⟨by repeat (first|(with_reducible first|exact HI276.out|apply IsS57.alloc|apply IsS57.drewN|apply IsS57.drew|apply IsS57.set_0|apply IsS57.set_1|apply IsS57.set_2)|exact HI276.out)⟩,⟨by repeat (first|(with_reducible first|exact HB.out|apply zl1|apply zl2|apply zl3|refine below_set ?_ (IsS57.ge HI276.out))|exact HB.out)⟩⟩
 case round =>
  clear H'
  try clear c1
  try clear p2
  obtain ⟨x5_1,x277000_1,x277001_1,x277002_1,HA,HK1,HO_5,HI276,HB⟩:=hrel
  cases gk with
  | zero=>exact absurd HA.out (by simp [factotumref13_Read.l0])
  | succ k1 =>
   have H:=HA.out
   clear HA
   simp only [factotumref13_Read.l0] at H
   replace H:=Option.bind_eq_some_iff.mp H
   obtain ⟨⟨t277,t278,t279,t280⟩,A30,H⟩:=H
   replace H:(if t277 > 0 then (if (x5_1.length:Int) ≥ 64 then (some (([]:List (S42)),3)) else ((factotumref13_read.f k1 t278 t279 t280).bind fun bt281=>(if bt281.2.2.2.2.2.2.2.1=0 then (if x5_1.length < 2199023255552 then (factotumref13_Read.l0 k1 (x5_1 ++ [(⟨bt281.1,bt281.2.1,bt281.2.2.1,bt281.2.2.2.1,(⟨bt281.2.2.2.2.1,bt281.2.2.2.2.2.1,bt281.2.2.2.2.2.2.1⟩:S40)⟩:S42)]) bt281.2.2.2.2.2.2.2.2.1 bt281.2.2.2.2.2.2.2.2.2.1 bt281.2.2.2.2.2.2.2.2.2.2) else (none)) else (some (([]:List (S42)),bt281.2.2.2.2.2.2.2.1))))) else (some (x5_1,0)))=some (r1,r2):=H
   have A3:=Aside0.mk A30
   clear A30
   by_cases c4:t277 > 0
   ·rw [if_pos c4] at H
    have c4b0:decide (0 < t277)=true:=decide_eq_true c4
    clear c4
    by_cases c5:(x5_1.length:Int) ≥ 64
    ·rw [if_pos c5] at H
     have c5b0:decide (64≤(x5_1.length:Int))=true:=decide_eq_true c5
     have c5b1:decide (64≤x5_1.length)=true:=decide_eq_true (by omega)
     clear c5
     simp only [Option.some.injEq,Prod.mk.injEq] at H
     obtain ⟨rfl,rfl⟩:=H
     go_wp2_with (first|((with_reducible refine gate_callee (f:=25) rfl ?_);refine goesL_ (some 12) rfl rfl Tryd.func25 (by kernel_rfl) rfl #[.pointer (some ⟨gb276,0,none⟩)] rfl (by (try simp only [List.map_toArray,List.map_cons,List.map_nil]);first|done|rfl|(simp only [List.length_drop,List.length_take];rfl)|(simp (disch:=omega) only [u64_in];rfl)) ?_;(with_reducible refine (factotumref01_Reader_Left.calls gb276 x277000_1 x277001_1 x277002_1 t277 t278 t279 t280 w _ ?side1 ?side2 A3.out).mono ?_);(case side1=>repeat (first|(with_reducible first|exact HI276.out|apply IsS57.alloc|apply IsS57.drewN|apply IsS57.drew|apply IsS57.set_0|apply IsS57.set_1|apply IsS57.set_2)|exact HI276.out));(case side2=>repeat (first|(with_reducible first|exact HB.out|apply zl1|apply zl2|apply zl3|refine below_set ?_ (IsS57.ge HI276.out))|exact HB.out));rintro e w6 ⟨rfl,hi,hb,hk⟩;refine ⟨_,rfl,?_⟩;replace HO_5:=Aside0.mk (Kd.R_mono (Kd.R_keep (IsS57.apart (show IsS57 w _ gb276 x277000_1 x277001_1 x277002_1 from by repeat (first|(with_reducible first|exact HI276.out|apply IsS57.alloc|apply IsS57.drewN|apply IsS57.drew|apply IsS57.set_0|apply IsS57.set_1|apply IsS57.set_2)|exact HI276.out)) (by (with_reducible repeat (first|apply zk1|apply zk2|apply zk3));exact HO_5.out) (by decide)) hk (fun _ h=>h.2)) (fun _ h=>h.1));replace HB:=Aside0.mk (hb);replace HI276:=Aside0.mk (hi);(try clear hb);(try clear hk);(try clear hi);obtain ⟨Ao7,co7,eo7⟩:=Kd.R_slice HO_5.out;subst eo7))
     go_ret2
     exact ⟨_,by first|(with_reducible rfl)|(simp only [isEmpty_bne,Bool.not_not] <;> rfl)|rfl|(simp [*,errW_none,errW_some] <;> rfl),by first|exact Kd.R_nil _ _ _ _ _|exact Kd.N_nil _ _ _ _ _|exact Kd.V_nil _ _ _ _ _|exact Kd.Q_nil _ _ _ _ _|exact Kd.S_nil _ _ _ _ _,by repeat (first|(with_reducible first|exact HB.out|apply zl1|apply zl2|apply zl3|refine below_set ?_ (IsS57.ge HI276.out))|exact HB.out)⟩
    ·rw [if_neg c5] at H
     have c5b0:decide (64≤(x5_1.length:Int))=false:=decide_eq_false c5
     have c5b1:decide (64≤x5_1.length)=false:=decide_eq_false (by omega)
     clear c5
     replace H:=Option.bind_eq_some_iff.mp H
     obtain ⟨⟨t281,t282,t283,t284,t285,t286,t287,t288,t289,t290,t291⟩,A80,H⟩:=H
     replace H:(if t288=0 then (if x5_1.length < 2199023255552 then (factotumref13_Read.l0 k1 (x5_1 ++ [(⟨t281,t282,t283,t284,(⟨t285,t286,t287⟩:S40)⟩:S42)]) t289 t290 t291) else (none)) else (some (([]:List (S42)),t288)))=some (r1,r2):=H
     have A8:=Aside0.mk A80
     clear A80
     by_cases c9:t288=0
     ·rw [if_pos c9] at H
      have c9b0:(t288 == 0)=true:=beq_iff_eq.mpr c9
      have c9b1:(t288 != 0)=false:=bne_eq_false_iff_eq.mpr c9
      clear c9
      by_cases c10:x5_1.length < 2199023255552
      ·rw [if_pos c10] at H
       have LMc10:=Aside0.mk c10
       clear c10
       obtain ⟨y293,hy293⟩:∃ y_:List (S42),y_=(x5_1 ++ [(⟨t281,t282,t283,t284,(⟨t285,t286,t287⟩:S40)⟩:S42)]):=⟨_,rfl⟩
       replace H:(factotumref13_Read.l0 k1 y293 t289 t290 t291)=some (r1,r2):=by first|(rw [hy293];with_reducible exact H)|(have H2_:=(Option.bind_some _ _).symm.trans H;rw [hy293];with_reducible exact H2_)|(have H2_:=(Option.bind_some _ _).symm.trans H;with_reducible exact H2_)|with_reducible exact H|(rw [hy293];exact H)|exact H
       have Ny293:=Aside0.mk hy293
       clear hy293
       have H':=Aside0.mk H
       clear H
       go_wp2_with (first|((with_reducible refine gate_callee (f:=25) rfl ?_);refine goesL_ (some 12) rfl rfl Tryd.func25 (by kernel_rfl) rfl #[.pointer (some ⟨gb276,0,none⟩)] rfl (by (try simp only [List.map_toArray,List.map_cons,List.map_nil]);first|done|rfl|(simp only [List.length_drop,List.length_take];rfl)|(simp (disch:=omega) only [u64_in];rfl)) ?_;(with_reducible refine (factotumref01_Reader_Left.calls gb276 x277000_1 x277001_1 x277002_1 t277 t278 t279 t280 w _ ?side1 ?side2 A3.out).mono ?_);(case side1=>repeat (first|(with_reducible first|exact HI276.out|apply IsS57.alloc|apply IsS57.drewN|apply IsS57.drew|apply IsS57.set_0|apply IsS57.set_1|apply IsS57.set_2)|exact HI276.out));(case side2=>repeat (first|(with_reducible first|exact HB.out|apply zl1|apply zl2|apply zl3|refine below_set ?_ (IsS57.ge HI276.out))|exact HB.out));rintro e w11 ⟨rfl,hi,hb,hk⟩;refine ⟨_,rfl,?_⟩;replace HO_5:=Aside0.mk (Kd.R_mono (Kd.R_keep (IsS57.apart (show IsS57 w _ gb276 x277000_1 x277001_1 x277002_1 from by repeat (first|(with_reducible first|exact HI276.out|apply IsS57.alloc|apply IsS57.drewN|apply IsS57.drew|apply IsS57.set_0|apply IsS57.set_1|apply IsS57.set_2)|exact HI276.out)) (by (with_reducible repeat (first|apply zk1|apply zk2|apply zk3));exact HO_5.out) (by decide)) hk (fun _ h=>h.2)) (fun _ h=>h.1));replace HB:=Aside0.mk (hb);replace HI276:=Aside0.mk (hi);(try clear hb);(try clear hk);(try clear hi);obtain ⟨Ao12,co12,eo12⟩:=Kd.R_slice HO_5.out;subst eo12)|((with_reducible refine gate_callee (f:=26) rfl ?_);refine goesL_ (some 19) rfl rfl Tryd.func26 (by kernel_rfl) rfl #[.pointer (some ⟨gb276,0,none⟩)] rfl (by (try simp only [List.map_toArray,List.map_cons,List.map_nil]);first|done|rfl|(simp only [List.length_drop,List.length_take];rfl)|(simp (disch:=omega) only [u64_in];rfl)) ?_;(with_reducible refine (factotumref13_read.calls k1 gb276 t278 t279 t280 t281 t282 t283 t284 t285 t286 t287 t288 t289 t290 t291 w _ ?side1 ?side2 A8.out).mono ?_);(case side1=>repeat (first|(with_reducible first|exact HI276.out|apply IsS57.alloc|apply IsS57.drewN|apply IsS57.drew|apply IsS57.set_0|apply IsS57.set_1|apply IsS57.set_2)|exact HI276.out));(case side2=>repeat (first|(with_reducible first|exact HB.out|apply zl1|apply zl2|apply zl3|refine below_set ?_ (IsS57.ge HI276.out))|exact HB.out));rintro e w13 ⟨rfl,hi,hb,hk⟩;refine ⟨_,rfl,?_⟩;replace HO_5:=Aside0.mk (Kd.R_mono (Kd.R_keep (IsS57.apart (show IsS57 w _ gb276 t278 t279 t280 from by repeat (first|(with_reducible first|exact HI276.out|apply IsS57.alloc|apply IsS57.drewN|apply IsS57.drew|apply IsS57.set_0|apply IsS57.set_1|apply IsS57.set_2)|exact HI276.out)) (by (with_reducible repeat (first|apply zk1|apply zk2|apply zk3));exact HO_5.out) (by decide)) hk (fun _ h=>h.2)) (fun _ h=>h.1));replace HB:=Aside0.mk (hb);replace HI276:=Aside0.mk (hi);(try clear hb);(try clear hk);(try clear hi))|((with_reducible refine gate_dst (N:=6) rfl ?_);refine box_event ?hg (N:=6) ?hd (cs:=#[.int .i64 0,.int .i64 0,.int .i64 0,.int .i64 0,.int .i64 0,.int .i64 0,.string (⟨#[]⟩:ByteArray)]) (t:=42) ?hr ?_;(case hd=>rfl);(case hg=>rfl);(case hr=>first|(go_simp;done)|(go_simp;rfl));intro gb292 hg w14 hbox hb;replace HO_5:=Aside0.mk (Kd.R_below (Kd.R_elderB (by (with_reducible repeat (first|apply zk1|apply zk2|apply zk3));exact HO_5.out) gb292 (Nat.le_of_eq hg.symm)) hb);have BK292:=Aside0.mk (hbox);have GW292:=Aside0.mk ((by rw [hg];exact (below_size (by repeat (first|(with_reducible first|exact HB.out|apply zl1|apply zl2|apply zl3|refine below_set ?_ (IsS57.ge HI276.out))|exact HB.out))):w.heap.size≤gb292));have GE292:=Aside0.mk ((by rw [hg];exact (below_size (by repeat (first|(with_reducible first|exact HB.out|apply zl1|apply zl2|apply zl3|refine below_set ?_ (IsS57.ge HI276.out))|exact HB.out))):w.heap.size≤gb292));replace HB:=Aside0.mk (below_step (by repeat (first|(with_reducible first|exact HB.out|apply zl1|apply zl2|apply zl3|refine below_set ?_ (IsS57.ge HI276.out))|exact HB.out)) hb);have NB276_292:=Aside0.mk ((by rw [hg];exact Nat.ne_of_lt (IsS57.lt (show IsS57 w _ gb276 t289 t290 t291 from by repeat (first|(with_reducible first|exact HI276.out|apply IsS57.alloc|apply IsS57.drewN|apply IsS57.drew|apply IsS57.set_0|apply IsS57.set_1|apply IsS57.set_2)|exact HI276.out))):gb276 ≠ gb292));have NB292_276:=Aside0.mk ((by rw [hg];exact Nat.ne_of_gt (IsS57.lt (show IsS57 w _ gb276 t289 t290 t291 from by repeat (first|(with_reducible first|exact HI276.out|apply IsS57.alloc|apply IsS57.drewN|apply IsS57.drew|apply IsS57.set_0|apply IsS57.set_1|apply IsS57.set_2)|exact HI276.out))):gb292 ≠ gb276));replace HI276:=Aside0.mk (IsS57.below (by repeat (first|(with_reducible first|exact HI276.out|apply IsS57.alloc|apply IsS57.drewN|apply IsS57.drew|apply IsS57.set_0|apply IsS57.set_1|apply IsS57.set_2)|exact HI276.out)) hb);clear hb hbox hg;have hnb15:=NB292_276.out;have hnc15:=NB276_292.out;obtain ⟨hcz16_0,hcz16_1,hcz16_2,hcz16_3,hcz16_4,hcz16_5,hcz16_6⟩:=zc7 BK292.out;obtain ⟨hfz16_0,hfz16_1,hfz16_2,hfz16_3,hfz16_4,hfz16_5,hfz16_6⟩:=zf7 BK292.out)|((with_reducible refine gate_builtin (b:=.append) (xs:=#[.tmp 25,.tmp 27]) rfl ?_);at_builtin;refine Kd.R_append k42 (w0:=w) w.heap.size rfl (.tmp 25) (.tmp 27) 22 42 (.agg #[(.int .i64 0),(.int .i64 0),(.int .i64 0),(.int .i64 0),(.int .i64 0),(.int .i64 0),(.string ⟨#[]⟩)]) 64 rfl Tryd.underlying22 info42 rfl (by decide) (by omega) (.slice Ao12 x5_1.length co12) x5_1 (⟨t281,t282,t283,t284,(⟨t285,t286,t287⟩:S40)⟩:S42) [.int .i64 t281,.int .i64 t282,.int .i64 t283,.int .i64 t284,.int .i64 t285,.int .i64 t286,.string t287] (fun k_=>k_ ≠ gb292) (fun _=>False) rfl (by first|(go_simp;done)|(go_simp;rfl)) ?aP (fun _ hk=>hk.elim) ?aF ?aO ?aB ?aS ?aL ?_;(case aP=>exact k42_mkM _ _ _ (⟨t281,t282,t283,t284,(⟨t285,t286,t287⟩:S40)⟩:S42));(case aB=>exact (by repeat (first|(with_reducible first|exact HB.out|apply zl1|apply zl2|apply zl3|refine below_set ?_ (IsS57.ge HI276.out)|refine below_set ?_ GE292.out)|exact HB.out)));(case aF=>exact (fun k_ hk=>Kd.freshB (g:=gb292) (o:=.cells #[.int .i64 t281,.int .i64 t282,.int .i64 t283,.int .i64 t284,.int .i64 t285,.int .i64 t286,.string t287] 42 (0,0)) (by apply zpe;(repeat (first|(with_reducible first|apply zb1|apply zb2|apply zb3|apply zpi|exact BK292.out)));rfl) k_ hk));(case aO=>exact (by (with_reducible repeat (first|apply zk1|apply zk2|apply zk3));exact Kd.R_mono (Kd.R_far (p:=⟨gb292,6,none⟩) (Kd.R_far (p:=⟨gb292,5,none⟩) (Kd.R_far (p:=⟨gb292,4,none⟩) (Kd.R_far (p:=⟨gb292,3,none⟩) (Kd.R_far (p:=⟨gb292,2,none⟩) (Kd.R_far (p:=⟨gb292,1,none⟩) (Kd.R_far (p:=⟨gb292,0,none⟩) (Kd.R_mono HO_5.out (fun k_ hk=>(⟨hk,hk.2⟩:_∧k_ ≠ gb292))) (fun _ hk=>hk.2) (.int .i64 t281)) (fun _ hk=>hk.2) (.int .i64 t282)) (fun _ hk=>hk.2) (.int .i64 t283)) (fun _ hk=>hk.2) (.int .i64 t284)) (fun _ hk=>hk.2) (.int .i64 t285)) (fun _ hk=>hk.2) (.int .i64 t286)) (fun _ hk=>hk.2) (.string t287)) (fun _ hk=>hk.1.2)));(case aS=>exact (below_size (by repeat (first|(with_reducible first|exact HB.out|apply zl1|apply zl2|apply zl3|refine below_set ?_ (IsS57.ge HI276.out)|refine below_set ?_ GE292.out)|exact HB.out))));(case aL=>have:=LMc10.out;omega);intro v294 w17 ho hb hg hat;rw [← Ny293.out] at ho;have n0_:=Aside0.mk (IsS57.grown (show IsS57 w _ gb276 t289 t290 t291 from by repeat (first|(with_reducible first|exact HI276.out|apply IsS57.alloc|apply IsS57.drewN|apply IsS57.drew|apply IsS57.set_0|apply IsS57.set_1|apply IsS57.set_2|refine IsS57.far ?_ NB276_292.out _)|exact HI276.out)) hg (IsS57.own_ne HI276.out HO_5.out (by decide)));have n1_:=Aside0.mk (blk_grown (g:=gb292) (o:=.cells #[.int .i64 t281,.int .i64 t282,.int .i64 t283,.int .i64 t284,.int .i64 t285,.int .i64 t286,.string t287] 42 (0,0)) (by apply zpe;(repeat (first|(with_reducible first|apply zb1|apply zb2|apply zb3|apply zpi|exact BK292.out)));rfl) hg (Kd.R_away HO_5.out (fun _ hk=>hk.2)));have n2_:=Aside0.mk (hb);have n3_:=Aside0.mk (ho);clear HI276;clear BK292;clear HB;clear HO_5;have HI276:=n0_;have BK292:=n1_;have HB:=n2_;have HO295:=n3_;clear n0_ n1_ n2_ n3_;clear ho hb hg hat))
       go_roundg k1
       case measure=>have:=HK1.out;omega
       case rel=>exact ⟨(y293),(t289),(t290),(t291),H',⟨by have:=HK1.out;omega⟩,⟨by (with_reducible repeat (first|apply zk1|apply zk2|apply zk3));exact Kd.R_mono HO295.out (fun _ hk=>trivial)⟩,⟨by repeat (first|(with_reducible first|exact HI276.out|apply IsS57.alloc|apply IsS57.drewN|apply IsS57.drew|apply IsS57.set_0|apply IsS57.set_1|apply IsS57.set_2|refine IsS57.far ?_ NB276_292.out _)|exact HI276.out)⟩,⟨by repeat (first|(with_reducible first|exact HB.out|apply zl1|apply zl2|apply zl3|refine below_set ?_ (IsS57.ge HI276.out)|refine below_set ?_ GE292.out)|exact HB.out)⟩⟩
      ·rw [if_neg c10] at H
       exact absurd H (by simp)
     ·rw [if_neg c9] at H
      have c9b0:(t288 == 0)=false:=beq_eq_false_iff_ne.mpr c9
      have c9b1:(t288 != 0)=true:=bne_iff_ne.mpr c9
      simp only [Option.some.injEq,Prod.mk.injEq] at H
      obtain ⟨rfl,rfl⟩:=H
      go_wp2_with (first|((with_reducible refine gate_callee (f:=25) rfl ?_);refine goesL_ (some 12) rfl rfl Tryd.func25 (by kernel_rfl) rfl #[.pointer (some ⟨gb276,0,none⟩)] rfl (by (try simp only [List.map_toArray,List.map_cons,List.map_nil]);first|done|rfl|(simp only [List.length_drop,List.length_take];rfl)|(simp (disch:=omega) only [u64_in];rfl)) ?_;(with_reducible refine (factotumref01_Reader_Left.calls gb276 x277000_1 x277001_1 x277002_1 t277 t278 t279 t280 w _ ?side1 ?side2 A3.out).mono ?_);(case side1=>repeat (first|(with_reducible first|exact HI276.out|apply IsS57.alloc|apply IsS57.drewN|apply IsS57.drew|apply IsS57.set_0|apply IsS57.set_1|apply IsS57.set_2)|exact HI276.out));(case side2=>repeat (first|(with_reducible first|exact HB.out|apply zl1|apply zl2|apply zl3|refine below_set ?_ (IsS57.ge HI276.out))|exact HB.out));rintro e w18 ⟨rfl,hi,hb,hk⟩;refine ⟨_,rfl,?_⟩;replace HO_5:=Aside0.mk (Kd.R_mono (Kd.R_keep (IsS57.apart (show IsS57 w _ gb276 x277000_1 x277001_1 x277002_1 from by repeat (first|(with_reducible first|exact HI276.out|apply IsS57.alloc|apply IsS57.drewN|apply IsS57.drew|apply IsS57.set_0|apply IsS57.set_1|apply IsS57.set_2)|exact HI276.out)) (by (with_reducible repeat (first|apply zk1|apply zk2|apply zk3));exact HO_5.out) (by decide)) hk (fun _ h=>h.2)) (fun _ h=>h.1));replace HB:=Aside0.mk (hb);replace HI276:=Aside0.mk (hi);(try clear hb);(try clear hk);(try clear hi);obtain ⟨Ao19,co19,eo19⟩:=Kd.R_slice HO_5.out;subst eo19)|((with_reducible refine gate_callee (f:=26) rfl ?_);refine goesL_ (some 19) rfl rfl Tryd.func26 (by kernel_rfl) rfl #[.pointer (some ⟨gb276,0,none⟩)] rfl (by (try simp only [List.map_toArray,List.map_cons,List.map_nil]);first|done|rfl|(simp only [List.length_drop,List.length_take];rfl)|(simp (disch:=omega) only [u64_in];rfl)) ?_;(with_reducible refine (factotumref13_read.calls k1 gb276 t278 t279 t280 t281 t282 t283 t284 t285 t286 t287 t288 t289 t290 t291 w _ ?side1 ?side2 A8.out).mono ?_);(case side1=>repeat (first|(with_reducible first|exact HI276.out|apply IsS57.alloc|apply IsS57.drewN|apply IsS57.drew|apply IsS57.set_0|apply IsS57.set_1|apply IsS57.set_2)|exact HI276.out));(case side2=>repeat (first|(with_reducible first|exact HB.out|apply zl1|apply zl2|apply zl3|refine below_set ?_ (IsS57.ge HI276.out))|exact HB.out));rintro e w20 ⟨rfl,hi,hb,hk⟩;refine ⟨_,rfl,?_⟩;replace HO_5:=Aside0.mk (Kd.R_mono (Kd.R_keep (IsS57.apart (show IsS57 w _ gb276 t278 t279 t280 from by repeat (first|(with_reducible first|exact HI276.out|apply IsS57.alloc|apply IsS57.drewN|apply IsS57.drew|apply IsS57.set_0|apply IsS57.set_1|apply IsS57.set_2)|exact HI276.out)) (by (with_reducible repeat (first|apply zk1|apply zk2|apply zk3));exact HO_5.out) (by decide)) hk (fun _ h=>h.2)) (fun _ h=>h.1));replace HB:=Aside0.mk (hb);replace HI276:=Aside0.mk (hi);(try clear hb);(try clear hk);(try clear hi))|((with_reducible refine gate_dst (N:=6) rfl ?_);refine box_event ?hg (N:=6) ?hd (cs:=#[.int .i64 0,.int .i64 0,.int .i64 0,.int .i64 0,.int .i64 0,.int .i64 0,.string (⟨#[]⟩:ByteArray)]) (t:=42) ?hr ?_;(case hd=>rfl);(case hg=>rfl);(case hr=>first|(go_simp;done)|(go_simp;rfl));intro gb292 hg w21 hbox hb;replace HO_5:=Aside0.mk (Kd.R_below (Kd.R_elderB (by (with_reducible repeat (first|apply zk1|apply zk2|apply zk3));exact HO_5.out) gb292 (Nat.le_of_eq hg.symm)) hb);have BK292:=Aside0.mk (hbox);have GW292:=Aside0.mk ((by rw [hg];exact (below_size (by repeat (first|(with_reducible first|exact HB.out|apply zl1|apply zl2|apply zl3|refine below_set ?_ (IsS57.ge HI276.out))|exact HB.out))):w.heap.size≤gb292));have GE292:=Aside0.mk ((by rw [hg];exact (below_size (by repeat (first|(with_reducible first|exact HB.out|apply zl1|apply zl2|apply zl3|refine below_set ?_ (IsS57.ge HI276.out))|exact HB.out))):w.heap.size≤gb292));replace HB:=Aside0.mk (below_step (by repeat (first|(with_reducible first|exact HB.out|apply zl1|apply zl2|apply zl3|refine below_set ?_ (IsS57.ge HI276.out))|exact HB.out)) hb);have NB276_292:=Aside0.mk ((by rw [hg];exact Nat.ne_of_lt (IsS57.lt (show IsS57 w _ gb276 t289 t290 t291 from by repeat (first|(with_reducible first|exact HI276.out|apply IsS57.alloc|apply IsS57.drewN|apply IsS57.drew|apply IsS57.set_0|apply IsS57.set_1|apply IsS57.set_2)|exact HI276.out))):gb276 ≠ gb292));have NB292_276:=Aside0.mk ((by rw [hg];exact Nat.ne_of_gt (IsS57.lt (show IsS57 w _ gb276 t289 t290 t291 from by repeat (first|(with_reducible first|exact HI276.out|apply IsS57.alloc|apply IsS57.drewN|apply IsS57.drew|apply IsS57.set_0|apply IsS57.set_1|apply IsS57.set_2)|exact HI276.out))):gb292 ≠ gb276));replace HI276:=Aside0.mk (IsS57.below (by repeat (first|(with_reducible first|exact HI276.out|apply IsS57.alloc|apply IsS57.drewN|apply IsS57.drew|apply IsS57.set_0|apply IsS57.set_1|apply IsS57.set_2)|exact HI276.out)) hb);clear hb hbox hg;have hnb22:=NB292_276.out;have hnc22:=NB276_292.out;obtain ⟨hcz23_0,hcz23_1,hcz23_2,hcz23_3,hcz23_4,hcz23_5,hcz23_6⟩:=zc7 BK292.out;obtain ⟨hfz23_0,hfz23_1,hfz23_2,hfz23_3,hfz23_4,hfz23_5,hfz23_6⟩:=zf7 BK292.out))
      go_ret2
      exact ⟨_,by first|(with_reducible rfl)|(simp only [isEmpty_bne,Bool.not_not] <;> rfl)|rfl|(simp [*,errW_none,errW_some] <;> rfl),by first|exact Kd.R_nil _ _ _ _ _|exact Kd.N_nil _ _ _ _ _|exact Kd.V_nil _ _ _ _ _|exact Kd.Q_nil _ _ _ _ _|exact Kd.S_nil _ _ _ _ _,by repeat (first|(with_reducible first|exact HB.out|apply zl1|apply zl2|apply zl3|refine below_set ?_ (IsS57.ge HI276.out)|refine below_set ?_ GE292.out)|exact HB.out)⟩
   ·rw [if_neg c4] at H
    have c4b0:decide (0 < t277)=false:=decide_eq_false c4
    clear c4
    simp only [Option.some.injEq,Prod.mk.injEq] at H
    obtain ⟨rfl,rfl⟩:=H
    go_wp2_with (first|((with_reducible refine gate_callee (f:=25) rfl ?_);refine goesL_ (some 12) rfl rfl Tryd.func25 (by kernel_rfl) rfl #[.pointer (some ⟨gb276,0,none⟩)] rfl (by (try simp only [List.map_toArray,List.map_cons,List.map_nil]);first|done|rfl|(simp only [List.length_drop,List.length_take];rfl)|(simp (disch:=omega) only [u64_in];rfl)) ?_;(with_reducible refine (factotumref01_Reader_Left.calls gb276 x277000_1 x277001_1 x277002_1 t277 t278 t279 t280 w _ ?side1 ?side2 A3.out).mono ?_);(case side1=>repeat (first|(with_reducible first|exact HI276.out|apply IsS57.alloc|apply IsS57.drewN|apply IsS57.drew|apply IsS57.set_0|apply IsS57.set_1|apply IsS57.set_2)|exact HI276.out));(case side2=>repeat (first|(with_reducible first|exact HB.out|apply zl1|apply zl2|apply zl3|refine below_set ?_ (IsS57.ge HI276.out))|exact HB.out));rintro e w24 ⟨rfl,hi,hb,hk⟩;refine ⟨_,rfl,?_⟩;replace HO_5:=Aside0.mk (Kd.R_mono (Kd.R_keep (IsS57.apart (show IsS57 w _ gb276 x277000_1 x277001_1 x277002_1 from by repeat (first|(with_reducible first|exact HI276.out|apply IsS57.alloc|apply IsS57.drewN|apply IsS57.drew|apply IsS57.set_0|apply IsS57.set_1|apply IsS57.set_2)|exact HI276.out)) (by (with_reducible repeat (first|apply zk1|apply zk2|apply zk3));exact HO_5.out) (by decide)) hk (fun _ h=>h.2)) (fun _ h=>h.1));replace HB:=Aside0.mk (hb);replace HI276:=Aside0.mk (hi);(try clear hb);(try clear hk);(try clear hi)))
    go_ret2
    exact ⟨_,by first|(with_reducible rfl)|(simp only [isEmpty_bne,Bool.not_not] <;> rfl)|rfl|(simp [*,errW_none,errW_some] <;> rfl),by (with_reducible repeat (first|apply zk1|apply zk2|apply zk3));exact HO_5.out,by repeat (first|(with_reducible first|exact HB.out|apply zl1|apply zl2|apply zl3|refine below_set ?_ (IsS57.ge HI276.out))|exact HB.out)⟩

end Go.Proofs.YtljfichnlgfikaaDoor.PAll
