/- Printed walks of the functions that the laws reach: each function, what it computes, and that it does. No conditions. -/
import Derived.Test.YtljfichnlgfikaaDoorPAllx0
import Derived.Test.YtljfichnlgfikaaDoorPAllx18
import Derived.Test.YtljfichnlgfikaaDoorPAllx22
namespace Go.Proofs.YtljfichnlgfikaaDoor.PAll
open Go.RowKit Go.Proofs.YtljfichnlgfikaaDoor.XW Go.Proofs.YtljfichnlgfikaaDoor.XLib Go.Proofs.YtljfichnlgfikaaDoorW.PrintWords Go.Proofs.YtljfichnlgfikaaDoorW.PrintLast Go.Proofs.YtljfichnlgfikaaDoorW.PrintMore
attribute [local go_sem] max2_int min2_int max_two min_two max_three min_three max_four min_four   -- for this text's walks alone
set_option linter.unusedVariables false
set_option linter.unusedSimpArgs false

/-! ### factotumref01_Reader_Num: function 39 -/
def factotumref01_Reader_Num.l0:Nat→ByteArray→Int→Int→ByteArray→Int→Int→Option (Int × ByteArray × Int × Int)
 | 0,_,_,_,_,_,_=>none
 | k + 1,x5,x6,x7,x1000,x1001,x1002=>if x7 < (x5.size:Int) then (if 0≤x7 then (factotumref01_Reader_Num.l0 k x5 (IntKind.u64.wrap ((IntKind.u64.wrap (256 * x6)) + (IntKind.u64.wrap (bt x5 x7)))) (wrap64 (x7 + 1)) x1000 x1001 x1002) else (none)) else (some (x6,x1000,x1001,x1002))
def factotumref01_Reader_Num.f (k:Nat) (s0_0:ByteArray) (s0_1:Int) (s0_2:Int) (a1:Int):Option (Int × ByteArray × Int × Int):=(factotumref01_size.f a1).bind fun t232=>((factotumref01_Reader_Raw.f s0_0 s0_1 s0_2 t232).bind fun bt233=>(factotumref01_Reader_Num.l0 k bt233.1 0 0 bt233.2.1 bt233.2.2.1 bt233.2.2.2))
theorem factotumref01_Reader_Num.mono_l:∀ k,(∀ y0 y1 y2 y3 y4 y5,LeO (factotumref01_Reader_Num.l0 k y0 y1 y2 y3 y4 y5) (factotumref01_Reader_Num.l0 (k + 1) y0 y1 y2 y3 y4 y5))
 | 0=>fun _ _ _ _ _ _ r h=>by simp [factotumref01_Reader_Num.l0] at h
 | k + 1=>by
  have ih0:=factotumref01_Reader_Num.mono_l k
  ·intro y0 y1 y2 y3 y4 y5
   unfold factotumref01_Reader_Num.l0
   repeat' first
   | (with_reducible exact ih0 _ _ _ _ _ _)
   | (with_reducible exact LeO.refl _)
   | (with_reducible exact LeO.none _)
   | (with_reducible refine LeO.ite ?_ ?_)
   | (with_reducible refine LeO.bind ?_ (fun _=>?_))
   | exact ih0 _ _ _ _ _ _
   | exact LeO.none _
   | refine LeO.ite ?_ ?_
   | refine LeO.bind ?_ (fun _=>?_)
theorem factotumref01_Reader_Num.mono:∀ a0 a1 a2 a3 k,LeO (factotumref01_Reader_Num.f k a0 a1 a2 a3) (factotumref01_Reader_Num.f (k + 1) a0 a1 a2 a3):=by
 intro a0 a1 a2 a3 k
 have ih0:=factotumref01_Reader_Num.mono_l k
 unfold factotumref01_Reader_Num.f
 repeat' first
   | (with_reducible exact ih0 _ _ _ _ _ _)
   | (with_reducible exact LeO.refl _)
   | (with_reducible exact LeO.none _)
   | (with_reducible refine LeO.ite ?_ ?_)
   | (with_reducible refine LeO.bind ?_ (fun _=>?_))
   | exact ih0 _ _ _ _ _ _
   | exact LeO.none _
   | refine LeO.ite ?_ ?_
   | refine LeO.bind ?_ (fun _=>?_)
set_option maxHeartbeats 8000000 in
set_option maxRecDepth 100000 in
theorem factotumref01_Reader_Num.calls (k:Nat) (g:Nat) (s0_0:ByteArray) (s0_1:Int) (s0_2:Int) (a1:Int) (r1:Int) (r2:ByteArray) (r3:Int) (r4:Int) (w0 w:World) (hI:IsS57 w0 w g s0_0 s0_1 s0_2) (hB:Below w0.heap.size w0 w) (h:factotumref01_Reader_Num.f k s0_0 s0_1 s0_2 a1=some (r1,r2,r3,r4)) :
  Calls Tryd.prog 39 #[.pointer (some ⟨g,0,none⟩),.int .i64 a1] w fun e w'=>e=.returned (.int .u64 r1)∧IsS57 w0 w' g r2 r3 r4∧Below w0.heap.size w0 w'∧KeepBut w w' g none:=by
 have HI0:=Aside0.mk hI
 have HK:=Aside0.mk (KeepBut.refl w g none)
 have HL:=Aside0.mk hB.size
 clear hI
 have HW0:=Aside0.mk hB.size
 have HB:=Aside0.mk hB
 clear hB
 have H:((factotumref01_size.f a1).bind fun t232=>((factotumref01_Reader_Raw.f s0_0 s0_1 s0_2 t232).bind fun bt233=>(factotumref01_Reader_Num.l0 k bt233.1 0 0 bt233.2.1 bt233.2.2.1 bt233.2.2.2)))=some (r1,r2,r3,r4):=h
 clear h
 replace H:=Option.bind_eq_some_iff.mp H
 obtain ⟨t232,A30,H⟩:=H
 replace H:((factotumref01_Reader_Raw.f s0_0 s0_1 s0_2 t232).bind fun bt233=>(factotumref01_Reader_Num.l0 k bt233.1 0 0 bt233.2.1 bt233.2.2.1 bt233.2.2.2))=some (r1,r2,r3,r4):=H
 have A3:=Aside0.mk A30
 clear A30
 replace H:=Option.bind_eq_some_iff.mp H
 obtain ⟨⟨t233,t234,t235,t236⟩,A40,H⟩:=H
 replace H:(factotumref01_Reader_Num.l0 k t233 0 0 t234 t235 t236)=some (r1,r2,r3,r4):=H
 have A4:=Aside0.mk A40
 clear A40
 have H':=Aside0.mk H
 clear H
 go_enter Tryd.func39,Tryd.ntmps39
 go_wp2_with (first|((with_reducible refine gate_callee (f:=45) rfl ?_);refine goesL_ (some 10) rfl rfl Tryd.func45 (by kernel_rfl) rfl #[.int .i64 a1] rfl (by (try simp only [List.map_toArray,List.map_cons,List.map_nil]);first|done|rfl|(simp only [List.length_drop,List.length_take];rfl)|(simp (disch:=omega) only [u64_in];rfl)) ?_;(with_reducible refine (factotumref01_size.calls a1 t232 _ A3.out).mono ?_);rintro e w5 ⟨rfl,hb⟩;refine ⟨_,rfl,?_⟩;replace HK:=Aside0.mk (KeepBut.trans (by repeat (first|(with_reducible first|exact HK.out|apply KeepBut.set_|apply keep_drewN|apply keep_drew|apply keep_alloc)|exact HK.out)) (KeepBut.of_below hb g none) (.inl rfl));replace HB:=Aside0.mk (below_step (by repeat (first|(with_reducible first|exact HB.out|apply zl1|apply zl2|apply zl3|refine below_set ?_ (IsS57.ge HI0.out))|exact HB.out)) hb);replace HI0:=Aside0.mk (IsS57.below (by repeat (first|(with_reducible first|exact HI0.out|apply IsS57.alloc|apply IsS57.drewN|apply IsS57.drew|apply IsS57.set_0|apply IsS57.set_1|apply IsS57.set_2)|exact HI0.out)) hb);(try clear hb))|((with_reducible refine gate_callee (f:=48) rfl ?_);refine goesL_ (some 11) rfl rfl Tryd.func48 (by kernel_rfl) rfl #[.pointer (some ⟨g,0,none⟩),.int .i64 t232] rfl (by (try simp only [List.map_toArray,List.map_cons,List.map_nil]);first|done|rfl|(simp only [List.length_drop,List.length_take];rfl)|(simp (disch:=omega) only [u64_in];rfl)) ?_;(with_reducible refine (factotumref01_Reader_Raw.calls g s0_0 s0_1 s0_2 t232 t233 t234 t235 t236 w0 _ ?side1 ?side2 A4.out).mono ?_);(case side1=>repeat (first|(with_reducible first|exact HI0.out|apply IsS57.alloc|apply IsS57.drewN|apply IsS57.drew|apply IsS57.set_0|apply IsS57.set_1|apply IsS57.set_2)|exact HI0.out));(case side2=>repeat (first|(with_reducible first|exact HB.out|apply zl1|apply zl2|apply zl3|refine below_set ?_ (IsS57.ge HI0.out))|exact HB.out));rintro e w6 ⟨rfl,hi,hb,hk⟩;refine ⟨_,rfl,?_⟩;replace HK:=Aside0.mk (KeepBut.trans (by repeat (first|(with_reducible first|exact HK.out|apply KeepBut.set_|apply keep_drewN|apply keep_drew|apply keep_alloc)|exact HK.out)) hk (.inl rfl));replace HB:=Aside0.mk (hb);replace HI0:=Aside0.mk (hi);(try clear hb);(try clear hk);(try clear hi)))
 go_loopg [6,7] k (fun kq v6 v7 w'=>∃ (x6_1:Int) (x7_1:Int),v6=.int .u64 x6_1∧v7=.int .i64 x7_1∧Aside0 (factotumref01_Reader_Num.l0 kq t233 x6_1 x7_1 t234 t235 t236=some (r1,r2,r3,r4))∧Aside0 (kq≤k)∧Aside0 (IsS57 w0 w' g t234 t235 t236)∧Aside0 (KeepBut w w' g none)∧Aside0 (Below w0.heap.size w0 w'))
 case atStart=>exact ⟨(0),(0),(by first|(with_reducible rfl)|(simp;done)|(simp [*];done)|rfl|(simp only [not_isEmpty_bne])),(by first|(with_reducible rfl)|(simp;done)|(simp [*];done)|rfl|(simp only [not_isEmpty_bne])),H',⟨Nat.le_refl _⟩,⟨by repeat (first|(with_reducible first|exact HI0.out|apply IsS57.alloc|apply IsS57.drewN|apply IsS57.drew|apply IsS57.set_0|apply IsS57.set_1|apply IsS57.set_2)|exact HI0.out)⟩,⟨by repeat (first|(with_reducible first|exact HK.out|apply KeepBut.set_|apply keep_drewN|apply keep_drew|apply keep_alloc)|exact HK.out)⟩,⟨by repeat (first|(with_reducible first|exact HB.out|apply zl1|apply zl2|apply zl3|refine below_set ?_ (IsS57.ge HI0.out))|exact HB.out)⟩⟩
 case round =>
  clear H'
  try clear p2
  try clear c3
  try clear c4
  obtain ⟨x6_1,x7_1,rfl,rfl,HA,HK1,HI0,HK,HB⟩:=hrel
  cases gk with
  | zero=>exact absurd HA.out (by simp [factotumref01_Reader_Num.l0])
  | succ k1 =>
   have H:=HA.out
   clear HA
   simp only [factotumref01_Reader_Num.l0] at H
   by_cases c7:x7_1 < (t233.size:Int)
   ·rw [if_pos c7] at H
    have c7b0:decide (x7_1 < (t233.size:Int))=true:=decide_eq_true c7
    clear c7
    by_cases c8:0≤x7_1
    ·rw [if_pos c8] at H
     have c8b0:decide (0≤x7_1)=true:=decide_eq_true c8
     clear c8
     have H':=Aside0.mk H
     clear H
     have p9:0≤(x7_1:Int):=of_decide_eq_true (by first|(with_reducible assumption)|assumption)
     have q9:x7_1 < (t233.size:Int):=of_decide_eq_true (by first|(with_reducible assumption)|assumption)
     have hx9:=bt_at t233 x7_1
     replace p9:=eq_true p9
     replace q9:=eq_true q9
     go_wp2
     go_roundg k1
     case measure=>have:=HK1.out;omega
     case rel=>exact ⟨(IntKind.u64.wrap ((IntKind.u64.wrap (256 * x6_1)) + (IntKind.u64.wrap (bt t233 x7_1)))),(wrap64 (x7_1 + 1)),(by first|(with_reducible rfl)|(simp;done)|(simp [*];done)|rfl|(simp only [not_isEmpty_bne])),(by first|(with_reducible rfl)|(simp;done)|(simp [*];done)|rfl|(simp only [not_isEmpty_bne])),H',⟨by have:=HK1.out;omega⟩,⟨by repeat (first|(with_reducible first|exact HI0.out|apply IsS57.alloc|apply IsS57.drewN|apply IsS57.drew|apply IsS57.set_0|apply IsS57.set_1|apply IsS57.set_2)|exact HI0.out)⟩,⟨by repeat (first|(with_reducible first|exact HK.out|apply KeepBut.set_|apply keep_drewN|apply keep_drew|apply keep_alloc)|exact HK.out)⟩,⟨by repeat (first|(with_reducible first|exact HB.out|apply zl1|apply zl2|apply zl3|refine below_set ?_ (IsS57.ge HI0.out))|exact HB.out)⟩⟩
    ·rw [if_neg c8] at H
     exact absurd H (by simp)
   ·rw [if_neg c7] at H
    have c7b0:decide (x7_1 < (t233.size:Int))=false:=decide_eq_false c7
    clear c7
    simp only [Option.some.injEq,Prod.mk.injEq] at H
    obtain ⟨rfl,rfl,rfl,rfl⟩:=H
    go_wp2
    go_ret
    exact ⟨by first|(with_reducible rfl)|(simp only [isEmpty_bne,Bool.not_not] <;> rfl)|rfl|(simp [*,errW_none,errW_some] <;> rfl),by repeat (first|(with_reducible first|exact HI0.out|apply IsS57.alloc|apply IsS57.drewN|apply IsS57.drew|apply IsS57.set_0|apply IsS57.set_1|apply IsS57.set_2)|exact HI0.out),by repeat (first|(with_reducible first|exact HB.out|apply zl1|apply zl2|apply zl3|refine below_set ?_ (IsS57.ge HI0.out))|exact HB.out),by repeat (first|(with_reducible first|exact HK.out|apply KeepBut.set_|apply keep_drewN|apply keep_drew|apply keep_alloc)|exact HK.out)⟩

end Go.Proofs.YtljfichnlgfikaaDoor.PAll
