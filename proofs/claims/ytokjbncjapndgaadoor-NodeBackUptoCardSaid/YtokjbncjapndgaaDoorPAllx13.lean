/- Printed walks of the functions that the laws reach: each function, what it computes, and that it does. No conditions. -/
import Derived.Test.YtokjbncjapndgaaDoorPAllx0
import Derived.Test.YtokjbncjapndgaaDoorPAllx10
import Derived.Test.YtokjbncjapndgaaDoorPAllx12
namespace Go.Proofs.YtokjbncjapndgaaDoor.PAll
open Go.RowKit Go.Proofs.YtokjbncjapndgaaDoor.XW Go.Proofs.YtokjbncjapndgaaDoor.XLib Go.Proofs.YtokjbncjapndgaaDoorW.PrintWords Go.Proofs.YtokjbncjapndgaaDoorW.PrintLast Go.Proofs.YtokjbncjapndgaaDoorW.PrintMore
attribute [local go_sem] max2_int min2_int max_two min_two max_three min_three max_four min_four   -- for this text's walks alone
set_option linter.unusedVariables false
set_option linter.unusedSimpArgs false

/-! ### pack_Reader_take: function 30 -/
def pack_Reader_take.f (s0_0:ByteArray) (s0_1:Int) (a1:Int):Option (ByteArray × Bool × ByteArray × Int):=if s0_1=0 then (if a1 > (s0_0.size:Int) then (some ((⟨#[]⟩:ByteArray),false,s0_0,2)) else (if 0≤a1 then (if a1≤(s0_0.size:Int) then (some (s0_0.extract 0 (a1:Int).toNat,true,s0_0.extract (a1:Int).toNat s0_0.size,s0_1)) else (none)) else (none))) else (some ((⟨#[]⟩:ByteArray),false,s0_0,s0_1))
set_option maxHeartbeats 8000000 in
set_option maxRecDepth 100000 in
theorem pack_Reader_take.calls (g:Nat) (s0_0:ByteArray) (s0_1:Int) (a1:Int) (r1:ByteArray) (r2:Bool) (r3:ByteArray) (r4:Int) (w0 w:World) (hI:IsS62 w0 w g s0_0 s0_1) (hB:Below w0.heap.size w0 w) (h:pack_Reader_take.f s0_0 s0_1 a1=some (r1,r2,r3,r4)) :
  Calls Tryd.prog 30 #[.pointer (some ⟨g,0,none⟩),.int .i64 a1] w fun e w'=>e=.returned (.tuple #[.string r1,.bool r2])∧IsS62 w0 w' g r3 r4∧Below w0.heap.size w0 w'∧KeepBut w w' g none:=by
 have HI0:=Aside0.mk hI
 have HK:=Aside0.mk (KeepBut.refl w g none)
 have HL:=Aside0.mk hB.size
 clear hI
 have HW0:=Aside0.mk hB.size
 have HB:=Aside0.mk hB
 clear hB
 have H:(if s0_1=0 then (if a1 > (s0_0.size:Int) then (some ((⟨#[]⟩:ByteArray),false,s0_0,2)) else (if 0≤a1 then (if a1≤(s0_0.size:Int) then (some (s0_0.extract 0 (a1:Int).toNat,true,s0_0.extract (a1:Int).toNat s0_0.size,s0_1)) else (none)) else (none))) else (some ((⟨#[]⟩:ByteArray),false,s0_0,s0_1)))=some (r1,r2,r3,r4):=h
 clear h
 by_cases c3:s0_1=0
 ·rw [if_pos c3] at H
  have c3b0:(s0_1 == 0)=true:=beq_iff_eq.mpr c3
  have c3b1:(s0_1 != 0)=false:=bne_eq_false_iff_eq.mpr c3
  clear c3
  by_cases c4:a1 > (s0_0.size:Int)
  ·rw [if_pos c4] at H
   have c4b0:decide ((s0_0.size:Int) < a1)=true:=decide_eq_true c4
   clear c4
   simp only [Option.some.injEq,Prod.mk.injEq] at H
   obtain ⟨rfl,rfl,rfl,rfl⟩:=H
   obtain ⟨HGz5,hgz5⟩:=HI0.out
   have hcz5_0:=cellS62_0 HGz5
   have hcz5_1:=cellS62_1 HGz5
   have hfz5_0:=blk_frozen HGz5 0
   have hfz5_1:=blk_frozen HGz5 1
   clear HGz5 hgz5
   go_enter Tryd.func30,Tryd.ntmps30
   go_wp2
   go_ret2
   exact ⟨by first|(with_reducible rfl)|(simp only [isEmpty_bne,Bool.not_not] <;> rfl)|rfl|(simp [*,errW_none,errW_some] <;> rfl),by repeat (first|(with_reducible first|exact HI0.out|apply IsS62.alloc|apply IsS62.drewN|apply IsS62.drew|apply IsS62.set_0|apply IsS62.set_1)|exact HI0.out),by repeat (first|(with_reducible first|exact HB.out|apply zl1|apply zl2|apply zl3|refine below_set ?_ (IsS62.ge HI0.out))|exact HB.out),by repeat (first|(with_reducible first|exact HK.out|apply KeepBut.set_|apply keep_drewN|apply keep_drew|apply keep_alloc)|exact HK.out)⟩
  ·rw [if_neg c4] at H
   have c4b0:decide ((s0_0.size:Int) < a1)=false:=decide_eq_false c4
   clear c4
   by_cases c6:0≤a1
   ·rw [if_pos c6] at H
    have c6b0:=eq_true c6
    have c6b1:decide (0≤a1)=true:=decide_eq_true c6
    clear c6
    by_cases c7:a1≤(s0_0.size:Int)
    ·rw [if_pos c7] at H
     have c7b0:=eq_true c7
     have c7b1:decide (a1≤(s0_0.size:Int))=true:=decide_eq_true c7
     clear c7
     have c8b0:=eq_true (of_decide_eq_true (by first|(with_reducible assumption)|assumption):0≤a1)
     have c9b0:=eq_true (of_decide_eq_true (by first|(with_reducible assumption)|assumption):a1≤(s0_0.size:Int))
     simp only [Option.some.injEq,Prod.mk.injEq] at H
     obtain ⟨rfl,rfl,rfl,rfl⟩:=H
     obtain ⟨HGz10,hgz10⟩:=HI0.out
     have hcz10_0:=cellS62_0 HGz10
     have hcz10_1:=cellS62_1 HGz10
     have hfz10_0:=blk_frozen HGz10 0
     have hfz10_1:=blk_frozen HGz10 1
     clear HGz10 hgz10
     go_enter Tryd.func30,Tryd.ntmps30
     go_wp2
     go_ret2
     exact ⟨by first|(with_reducible rfl)|(simp only [isEmpty_bne,Bool.not_not] <;> rfl)|rfl|(simp [*,errW_none,errW_some] <;> rfl),by repeat (first|(with_reducible first|exact HI0.out|apply IsS62.alloc|apply IsS62.drewN|apply IsS62.drew|apply IsS62.set_0|apply IsS62.set_1)|exact HI0.out),by repeat (first|(with_reducible first|exact HB.out|apply zl1|apply zl2|apply zl3|refine below_set ?_ (IsS62.ge HI0.out))|exact HB.out),by repeat (first|(with_reducible first|exact HK.out|apply KeepBut.set_|apply keep_drewN|apply keep_drew|apply keep_alloc)|exact HK.out)⟩
    ·rw [if_neg c7] at H
     exact absurd H (by simp)
   ·rw [if_neg c6] at H
    exact absurd H (by simp)
 ·rw [if_neg c3] at H
  have c3b0:(s0_1 == 0)=false:=beq_eq_false_iff_ne.mpr c3
  have c3b1:(s0_1 != 0)=true:=bne_iff_ne.mpr c3
  simp only [Option.some.injEq,Prod.mk.injEq] at H
  obtain ⟨rfl,rfl,rfl,rfl⟩:=H
  obtain ⟨HGz11,hgz11⟩:=HI0.out
  have hcz11_0:=cellS62_0 HGz11
  have hcz11_1:=cellS62_1 HGz11
  have hfz11_0:=blk_frozen HGz11 0
  have hfz11_1:=blk_frozen HGz11 1
  clear HGz11 hgz11
  go_enter Tryd.func30,Tryd.ntmps30
  go_wp2
  go_ret2
  exact ⟨by first|(with_reducible rfl)|(simp only [isEmpty_bne,Bool.not_not] <;> rfl)|rfl|(simp [*,errW_none,errW_some] <;> rfl),by repeat (first|(with_reducible first|exact HI0.out|apply IsS62.alloc|apply IsS62.drewN|apply IsS62.drew|apply IsS62.set_0|apply IsS62.set_1)|exact HI0.out),by repeat (first|(with_reducible first|exact HB.out|apply zl1|apply zl2|apply zl3|refine below_set ?_ (IsS62.ge HI0.out))|exact HB.out),by repeat (first|(with_reducible first|exact HK.out|apply KeepBut.set_|apply keep_drewN|apply keep_drew|apply keep_alloc)|exact HK.out)⟩

/-! ### pack_Reader_Num: function 13 -/
def pack_Reader_Num.f (s0_0:ByteArray) (s0_1:Int) (a1:Int):Option (Int × ByteArray × Int):=(pack_wide.f a1).bind fun k=>(pack_Reader_take.f s0_0 s0_1 k).bind fun t=>some (beNum t.1.data.toList,t.2.2.1,t.2.2.2)
theorem pack_wide.bd {a k:Int} (h:pack_wide.f a=some k):1≤k∧k≤8:=by
 simp only [pack_wide.f,Option.some.injEq] at h;subst h;unfold mx mn;(repeat' split) <;> omega
theorem pack_Reader_take.bd {s:ByteArray} {e k:Int} {t1:ByteArray} {t2:Bool} {t3:ByteArray} {t4:Int} (h:pack_Reader_take.f s e k=some (t1,t2,t3,t4)):(t1.size:Int)≤k ∨ t1.size=0:=by
 unfold pack_Reader_take.f at h
 (repeat' split at h) <;> simp only [Option.some.injEq,Prod.mk.injEq,reduceCtorEq] at h <;> (obtain ⟨rfl,rfl,rfl,rfl⟩:=h)
 all_goals first
  | (right;rfl)
  | (left;rw [ByteArray.size_extract];omega)
set_option maxHeartbeats 4000000 in
set_option maxRecDepth 100000 in
theorem pack_Reader_Num.calls (g:Nat) (s0_0:ByteArray) (s0_1:Int) (a1:Int) (r1:Int) (r2:ByteArray) (r3:Int) (w0 w:World) (hI:IsS62 w0 w g s0_0 s0_1) (hB:Below w0.heap.size w0 w) (h:pack_Reader_Num.f s0_0 s0_1 a1=some (r1,r2,r3)) :
  Calls Tryd.prog 13 #[.pointer (some ⟨g,0,none⟩),.int .i64 a1] w fun e w'=>e=.returned (.int .u64 r1)∧IsS62 w0 w' g r2 r3∧Below w0.heap.size w0 w'∧KeepBut w w' g none:=by
 unfold pack_Reader_Num.f at h
 obtain ⟨k,hk,h⟩:=Option.bind_eq_some_iff.1 h
 obtain ⟨⟨t1,t2,t3,t4⟩,ht,h⟩:=Option.bind_eq_some_iff.1 h
 simp only [Option.some.injEq,Prod.mk.injEq] at h
 obtain ⟨rfl,rfl,rfl⟩:=h
 have hcv:=fun W:World=>Lib.run_convert_string_bytes (P:=Tryd.prog) W 9 52 5 t1 Tryd.underlying9 Tryd.underlying52 Tryd.underlying5
 have hsz:t1.size≤8:=by
  have:=pack_wide.bd hk
  rcases pack_Reader_take.bd ht with h|h <;> omega
 have HK:=Aside0.mk hk
 have HT:=Aside0.mk ht
 clear hk ht
 go_enter Tryd.func13,Tryd.ntmps13
 go_wp2_with (first|(go_at_call 31;refine (pack_wide.calls a1 k _ HK.out).mono ?_;rintro e w1 ⟨rfl,hb1⟩)|(go_at_call 30;refine (pack_Reader_take.calls g s0_0 s0_1 k t1 t2 t3 t4 w0 _ (hI.below hb1) (below_step hB hb1) HT.out).mono ?_;rintro e w2 ⟨rfl,hI2,hB2,hK2⟩))
 have hbw:Below w2.heap.size w2 (Lib.bytesWorld w2 5 t1):=bytesWorld_below w2 5 t1
 have HI3:=Aside0.mk (hI2.below hbw)
 have HB3:=Aside0.mk (below_step hB2 hbw)
 have HK3:=Aside0.mk (KeepBut.trans (KeepBut.of_below hb1 g none) (KeepBut.trans hK2 (KeepBut.of_below hbw g none) (.inl rfl)) (.inl rfl))
 clear hI2 hB2 hK2 hbw hb1 hI hB HT HK hcv
 go_loop [7,20] (fun n i=>∃ j:Nat,j≤t1.size∧i=.int .i64 j∧n=.int .u64 (beNum (t1.data.toList.take j))) (fun _ i=>t1.size - (intOf i).toNat)
 case atStart=>exact ⟨0,Nat.zero_le _,rfl,rfl⟩
 case round =>
  obtain ⟨j,hj,rfl,rfl⟩:=hrel
  by_cases hlt:j < t1.size
  ·have hc:=Lib.bytesWorld_cell w2 5 t1 j hlt
   have hb:=beNum_bd (t1.data.toList.take j)
   have Hnx:=Lib.hid (show beStep (beNum (t1.data.toList.take j)) t1[j]=beNum (t1.data.toList.take (j + 1)) by rw [take_succ_get t1 j hlt,beNum_snoc])
   go_wp2
   go_round
   case rel=>exact ⟨j + 1,by omega,by go_num,by rw [← Hnx.out,← or_byte_w];rfl⟩
   case measure=>simp [intOf];omega
  ·have hje:j=t1.size:=by omega
   subst hje
   go_wp2
   go_ret
   refine ⟨?_,HI3.out,HB3.out,HK3.out⟩
   have:t1.data.toList.take t1.size=t1.data.toList:=List.take_of_length_le (by rw [← Lib.size_eq];exact Nat.le_refl _)
   rw [this];rfl

end Go.Proofs.YtokjbncjapndgaaDoor.PAll
