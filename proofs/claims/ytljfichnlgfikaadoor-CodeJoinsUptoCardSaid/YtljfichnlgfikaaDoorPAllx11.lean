/- Printed walks of the functions that the laws reach: each function, what it computes, and that it does. No conditions. -/
import Derived.Test.YtljfichnlgfikaaDoorPAllx0
import Derived.Test.YtljfichnlgfikaaDoorPAllx3
import Derived.Test.YtljfichnlgfikaaDoorPAllx10
namespace Go.Proofs.YtljfichnlgfikaaDoor.PAll
open Go.RowKit Go.Proofs.YtljfichnlgfikaaDoor.XW Go.Proofs.YtljfichnlgfikaaDoor.XLib Go.Proofs.YtljfichnlgfikaaDoorW.PrintWords Go.Proofs.YtljfichnlgfikaaDoorW.PrintLast Go.Proofs.YtljfichnlgfikaaDoorW.PrintMore
attribute [local go_sem] max2_int min2_int max_two min_two max_three min_three max_four min_four   -- for this text's walks alone
set_option linter.unusedVariables false
set_option linter.unusedSimpArgs false

/-! ### pack_Reader_Num: function 37 -/
def pack_Reader_Num.f (s0_0:ByteArray) (s0_1:Int) (a1:Int):Option (Int × ByteArray × Int):=(pack_wide.f a1).bind fun k=>(pack_Reader_take.f s0_0 s0_1 k).bind fun t=>some (beNum t.1.data.toList,t.2.2.1,t.2.2.2)
theorem pack_wide.bd {a k:Int} (h:pack_wide.f a=some k):1≤k∧k≤8:=by
 simp only [pack_wide.f,Option.some.injEq] at h;subst h;unfold mx mn;(repeat' split) <;> omega
theorem pack_Reader_take.bd {s:ByteArray} {e k:Int} {t1:ByteArray} {t2:Bool} {t3:ByteArray} {t4:Int} (h:pack_Reader_take.f s e k=some (t1,t2,t3,t4)):(t1.size:Int)≤k ∨ t1.size=0:=by
 unfold pack_Reader_take.f at h
 (repeat' split at h) <;> simp only [Option.some.injEq,Prod.mk.injEq,reduceCtorEq] at h <;> (obtain ⟨rfl,rfl,rfl,rfl⟩:=h)
 all_goals first
  | (right;rfl)
  | (left;rw [ByteArray.size_extract];omega)
set_option maxHeartbeats 4000000 in
set_option maxRecDepth 100000 in
theorem pack_Reader_Num.calls (g:Nat) (s0_0:ByteArray) (s0_1:Int) (a1:Int) (r1:Int) (r2:ByteArray) (r3:Int) (w0 w:World) (hI:IsS74 w0 w g s0_0 s0_1) (hB:Below w0.heap.size w0 w) (h:pack_Reader_Num.f s0_0 s0_1 a1=some (r1,r2,r3)) :
  Calls Tryd.prog 37 #[.pointer (some ⟨g,0,none⟩),.int .i64 a1] w fun e w'=>e=.returned (.int .u64 r1)∧IsS74 w0 w' g r2 r3∧Below w0.heap.size w0 w'∧KeepBut w w' g none:=by
 unfold pack_Reader_Num.f at h
 obtain ⟨k,hk,h⟩:=Option.bind_eq_some_iff.1 h
 obtain ⟨⟨t1,t2,t3,t4⟩,ht,h⟩:=Option.bind_eq_some_iff.1 h
 simp only [Option.some.injEq,Prod.mk.injEq] at h
 obtain ⟨rfl,rfl,rfl⟩:=h
 have hcv:=fun W:World=>Lib.run_convert_string_bytes (P:=Tryd.prog) W 9 43 5 t1 Tryd.underlying9 Tryd.underlying43 Tryd.underlying5
 have hsz:t1.size≤8:=by
  have:=pack_wide.bd hk
  rcases pack_Reader_take.bd ht with h|h <;> omega
 have HK:=Aside0.mk hk
 have HT:=Aside0.mk ht
 clear hk ht
 go_enter Tryd.func37,Tryd.ntmps37
 go_wp2_with (first|(go_at_call 41;refine (pack_wide.calls a1 k _ HK.out).mono ?_;rintro e w1 ⟨rfl,hb1⟩)|(go_at_call 46;refine (pack_Reader_take.calls g s0_0 s0_1 k t1 t2 t3 t4 w0 _ (hI.below hb1) (below_step hB hb1) HT.out).mono ?_;rintro e w2 ⟨rfl,hI2,hB2,hK2⟩))
 have hbw:Below w2.heap.size w2 (Lib.bytesWorld w2 5 t1):=bytesWorld_below w2 5 t1
 have HI3:=Aside0.mk (hI2.below hbw)
 have HB3:=Aside0.mk (below_step hB2 hbw)
 have HK3:=Aside0.mk (KeepBut.trans (KeepBut.of_below hb1 g none) (KeepBut.trans hK2 (KeepBut.of_below hbw g none) (.inl rfl)) (.inl rfl))
 clear hI2 hB2 hK2 hbw hb1 hI hB HT HK hcv
 go_loop [7,20] (fun n i=>∃ j:Nat,j≤t1.size∧i=.int .i64 j∧n=.int .u64 (beNum (t1.data.toList.take j))) (fun _ i=>t1.size - (intOf i).toNat)
 case atStart=>exact ⟨0,Nat.zero_le _,rfl,rfl⟩
 case round =>
  obtain ⟨j,hj,rfl,rfl⟩:=hrel
  by_cases hlt:j < t1.size
  ·have hc:=Lib.bytesWorld_cell w2 5 t1 j hlt
   have hb:=beNum_bd (t1.data.toList.take j)
   have Hnx:=Lib.hid (show beStep (beNum (t1.data.toList.take j)) t1[j]=beNum (t1.data.toList.take (j + 1)) by rw [take_succ_get t1 j hlt,beNum_snoc])
   go_wp2
   go_round
   case rel=>exact ⟨j + 1,by omega,by go_num,by rw [← Hnx.out,← or_byte_w];rfl⟩
   case measure=>simp [intOf];omega
  ·have hje:j=t1.size:=by omega
   subst hje
   go_wp2
   go_ret
   refine ⟨?_,HI3.out,HB3.out,HK3.out⟩
   have:t1.data.toList.take t1.size=t1.data.toList:=List.take_of_length_le (by rw [← Lib.size_eq];exact Nat.le_refl _)
   rw [this];rfl

/-! ### pack_Reader_Str: function 47 -/
def pack_Reader_Str.f (s0_0:ByteArray) (s0_1:Int) (a1:Int):Option (ByteArray × ByteArray × Int):=if s0_1=0 then ((pack_Reader_take.f s0_0 s0_1 1).bind fun bt168=>(if bt168.2.1=true then (if 0 < (bt168.1.size:Int) then (if (wrap64 (bt bt168.1 0)) > a1 then (some ((⟨#[]⟩:ByteArray),s0_0,3)) else ((pack_Reader_take.f bt168.2.2.1 bt168.2.2.2 (wrap64 (bt bt168.1 0))).bind fun bt172=>(if bt172.2.1=true then (some (bt172.1,bt172.2.2.1,bt172.2.2.2)) else (some (bt172.1,s0_0,bt172.2.2.2))))) else (none)) else (some ((⟨#[]⟩:ByteArray),bt168.2.2.1,bt168.2.2.2)))) else (some ((⟨#[]⟩:ByteArray),s0_0,s0_1))
set_option maxHeartbeats 8000000 in
set_option maxRecDepth 100000 in
theorem pack_Reader_Str.calls (g:Nat) (s0_0:ByteArray) (s0_1:Int) (a1:Int) (r1:ByteArray) (r2:ByteArray) (r3:Int) (w0 w:World) (hI:IsS74 w0 w g s0_0 s0_1) (hB:Below w0.heap.size w0 w) (h:pack_Reader_Str.f s0_0 s0_1 a1=some (r1,r2,r3)) :
  Calls Tryd.prog 47 #[.pointer (some ⟨g,0,none⟩),.int .i64 a1] w fun e w'=>e=.returned (.string r1)∧IsS74 w0 w' g r2 r3∧Below w0.heap.size w0 w'∧KeepBut w w' g none:=by
 have HI0:=Aside0.mk hI
 have HK:=Aside0.mk (KeepBut.refl w g none)
 have HL:=Aside0.mk hB.size
 clear hI
 have HW0:=Aside0.mk hB.size
 have HB:=Aside0.mk hB
 clear hB
 have H:(if s0_1=0 then ((pack_Reader_take.f s0_0 s0_1 1).bind fun bt168=>(if bt168.2.1=true then (if 0 < (bt168.1.size:Int) then (if (wrap64 (bt bt168.1 0)) > a1 then (some ((⟨#[]⟩:ByteArray),s0_0,3)) else ((pack_Reader_take.f bt168.2.2.1 bt168.2.2.2 (wrap64 (bt bt168.1 0))).bind fun bt172=>(if bt172.2.1=true then (some (bt172.1,bt172.2.2.1,bt172.2.2.2)) else (some (bt172.1,s0_0,bt172.2.2.2))))) else (none)) else (some ((⟨#[]⟩:ByteArray),bt168.2.2.1,bt168.2.2.2)))) else (some ((⟨#[]⟩:ByteArray),s0_0,s0_1)))=some (r1,r2,r3):=h
 clear h
 by_cases c3:s0_1=0
 ·rw [if_pos c3] at H
  have c3b0:(s0_1 == 0)=true:=beq_iff_eq.mpr c3
  have c3b1:(s0_1 != 0)=false:=bne_eq_false_iff_eq.mpr c3
  clear c3
  replace H:=Option.bind_eq_some_iff.mp H
  obtain ⟨⟨t168,t169,t170,t171⟩,A40,H⟩:=H
  replace H:(if t169=true then (if 0 < (t168.size:Int) then (if (wrap64 (bt t168 0)) > a1 then (some ((⟨#[]⟩:ByteArray),s0_0,3)) else ((pack_Reader_take.f t170 t171 (wrap64 (bt t168 0))).bind fun bt172=>(if bt172.2.1=true then (some (bt172.1,bt172.2.2.1,bt172.2.2.2)) else (some (bt172.1,s0_0,bt172.2.2.2))))) else (none)) else (some ((⟨#[]⟩:ByteArray),t170,t171)))=some (r1,r2,r3):=H
  have A4:=Aside0.mk A40
  clear A40
  by_cases c5:t169=true
  ·subst c5
   have H1:(if 0 < (t168.size:Int) then (if (wrap64 (bt t168 0)) > a1 then (some ((⟨#[]⟩:ByteArray),s0_0,3)) else ((pack_Reader_take.f t170 t171 (wrap64 (bt t168 0))).bind fun bt172=>(if bt172.2.1=true then (some (bt172.1,bt172.2.2.1,bt172.2.2.2)) else (some (bt172.1,s0_0,bt172.2.2.2))))) else (none))=some (r1,r2,r3):=by rw [if_pos rfl] at H;exact H
   clear H
   have H:=H1
   clear H1
   by_cases c6:0 < (t168.size:Int)
   ·rw [if_pos c6] at H
    have c6b0:decide (0 < (t168.size:Int))=true:=decide_eq_true c6
    have c6b1:decide (0 < t168.size)=true:=decide_eq_true (by omega)
    clear c6
    by_cases c8:(wrap64 (bt t168 0)) > a1
    ·rw [if_pos c8] at H
     have c8b0:decide (a1 < (wrap64 (bt t168 0)))=true:=decide_eq_true c8
     clear c8
     simp only [Option.some.injEq,Prod.mk.injEq] at H
     obtain ⟨rfl,rfl,rfl⟩:=H
     obtain ⟨HGz9,hgz9⟩:=HI0.out
     have hcz9_0:=cellS74_0 HGz9
     have hcz9_1:=cellS74_1 HGz9
     have hfz9_0:=blk_frozen HGz9 0
     have hfz9_1:=blk_frozen HGz9 1
     clear HGz9 hgz9
     go_enter Tryd.func47,Tryd.ntmps47
     go_wp2_with (first|((with_reducible refine gate_callee (f:=46) rfl ?_);refine goesL_ (some 23) rfl rfl Tryd.func46 (by kernel_rfl) rfl #[.pointer (some ⟨g,0,none⟩),.int .i64 1] rfl (by (try simp only [List.map_toArray,List.map_cons,List.map_nil]);first|done|rfl|(simp only [List.length_drop,List.length_take];rfl)|(simp (disch:=omega) only [u64_in];rfl)) ?_;(with_reducible refine (pack_Reader_take.calls g s0_0 s0_1 1 t168 true t170 t171 w0 _ ?side1 ?side2 A4.out).mono ?_);(case side1=>repeat (first|(with_reducible first|exact HI0.out|apply IsS74.alloc|apply IsS74.drewN|apply IsS74.drew|apply IsS74.set_0|apply IsS74.set_1)|exact HI0.out));(case side2=>repeat (first|(with_reducible first|exact HB.out|apply zl1|apply zl2|apply zl3|refine below_set ?_ (IsS74.ge HI0.out))|exact HB.out));rintro e w10 ⟨rfl,hi,hb,hk⟩;refine ⟨_,rfl,?_⟩;replace HK:=Aside0.mk (KeepBut.trans (by repeat (first|(with_reducible first|exact HK.out|apply KeepBut.set_|apply keep_drewN|apply keep_drew|apply keep_alloc)|exact HK.out)) hk (.inl rfl));replace HB:=Aside0.mk (hb);replace HI0:=Aside0.mk (hi);(try clear hb);(try clear hk);(try clear hi);have p7:0≤(0:Int):=(by omega);have q7:0 < t168.size:=(by have:(0:Int) < (t168.size:Int):=of_decide_eq_true (by first|(with_reducible assumption)|assumption);omega);have hx7:∀ h:0 < t168.size,((t168[0]'h).toNat:Int)=bt t168 0:=bt_at t168 0;clear p7;have qi7:(0 < (t168.size:Int))=True:=eq_true (of_decide_eq_true (by first|(with_reducible assumption)|assumption));replace q7:=eq_true q7;obtain ⟨HGz11,hgz11⟩:=HI0.out;have hcz11_0:=cellS74_0 HGz11;have hcz11_1:=cellS74_1 HGz11;have hfz11_0:=blk_frozen HGz11 0;have hfz11_1:=blk_frozen HGz11 1;clear HGz11 hgz11))
     go_ret
     exact ⟨by first|(with_reducible rfl)|(simp only [isEmpty_bne,Bool.not_not] <;> rfl)|rfl|(simp [*,errW_none,errW_some] <;> rfl),by repeat (first|(with_reducible first|exact HI0.out|apply IsS74.alloc|apply IsS74.drewN|apply IsS74.drew|apply IsS74.set_0|apply IsS74.set_1)|exact HI0.out),by repeat (first|(with_reducible first|exact HB.out|apply zl1|apply zl2|apply zl3|refine below_set ?_ (IsS74.ge HI0.out))|exact HB.out),by repeat (first|(with_reducible first|exact HK.out|apply KeepBut.set_|apply keep_drewN|apply keep_drew|apply keep_alloc)|exact HK.out)⟩
    ·rw [if_neg c8] at H
     have c8b0:decide (a1 < (wrap64 (bt t168 0)))=false:=decide_eq_false c8
     clear c8
     replace H:=Option.bind_eq_some_iff.mp H
     obtain ⟨⟨t172,t173,t174,t175⟩,A130,H⟩:=H
     replace H:(if t173=true then (some (t172,t174,t175)) else (some (t172,s0_0,t175)))=some (r1,r2,r3):=H
     have A13:=Aside0.mk A130
     clear A130
     by_cases c14:t173=true
     ·subst c14
      have H1:(some (t172,t174,t175))=some (r1,r2,r3):=by rw [if_pos rfl] at H;exact H
      clear H
      have H:=H1
      clear H1
      simp only [Option.some.injEq,Prod.mk.injEq] at H
      obtain ⟨rfl,rfl,rfl⟩:=H
      obtain ⟨HGz15,hgz15⟩:=HI0.out
      have hcz15_0:=cellS74_0 HGz15
      have hcz15_1:=cellS74_1 HGz15
      have hfz15_0:=blk_frozen HGz15 0
      have hfz15_1:=blk_frozen HGz15 1
      clear HGz15 hgz15
      go_enter Tryd.func47,Tryd.ntmps47
      go_wp2_with (first|((with_reducible refine gate_callee (f:=46) rfl ?_);refine goesL_ (some 23) rfl rfl Tryd.func46 (by kernel_rfl) rfl #[.pointer (some ⟨g,0,none⟩),.int .i64 1] rfl (by (try simp only [List.map_toArray,List.map_cons,List.map_nil]);first|done|rfl|(simp only [List.length_drop,List.length_take];rfl)|(simp (disch:=omega) only [u64_in];rfl)) ?_;(with_reducible refine (pack_Reader_take.calls g s0_0 s0_1 1 t168 true t170 t171 w0 _ ?side1 ?side2 A4.out).mono ?_);(case side1=>repeat (first|(with_reducible first|exact HI0.out|apply IsS74.alloc|apply IsS74.drewN|apply IsS74.drew|apply IsS74.set_0|apply IsS74.set_1)|exact HI0.out));(case side2=>repeat (first|(with_reducible first|exact HB.out|apply zl1|apply zl2|apply zl3|refine below_set ?_ (IsS74.ge HI0.out))|exact HB.out));rintro e w16 ⟨rfl,hi,hb,hk⟩;refine ⟨_,rfl,?_⟩;replace HK:=Aside0.mk (KeepBut.trans (by repeat (first|(with_reducible first|exact HK.out|apply KeepBut.set_|apply keep_drewN|apply keep_drew|apply keep_alloc)|exact HK.out)) hk (.inl rfl));replace HB:=Aside0.mk (hb);replace HI0:=Aside0.mk (hi);(try clear hb);(try clear hk);(try clear hi);have p7:0≤(0:Int):=(by omega);have q7:0 < t168.size:=(by have:(0:Int) < (t168.size:Int):=of_decide_eq_true (by first|(with_reducible assumption)|assumption);omega);have hx7:∀ h:0 < t168.size,((t168[0]'h).toNat:Int)=bt t168 0:=bt_at t168 0;clear p7;have qi7:(0 < (t168.size:Int))=True:=eq_true (of_decide_eq_true (by first|(with_reducible assumption)|assumption));replace q7:=eq_true q7;have p12:0≤(0:Int):=(by omega);have q12:0 < t168.size:=(by have:(0:Int) < (t168.size:Int):=of_decide_eq_true (by first|(with_reducible assumption)|assumption);omega);have hx12:∀ h:0 < t168.size,((t168[0]'h).toNat:Int)=bt t168 0:=bt_at t168 0;clear p12;have qi12:(0 < (t168.size:Int))=True:=eq_true (of_decide_eq_true (by first|(with_reducible assumption)|assumption));replace q12:=eq_true q12)|((with_reducible refine gate_callee (f:=46) rfl ?_);refine goesL_ (some 47) rfl rfl Tryd.func46 (by kernel_rfl) rfl #[.pointer (some ⟨g,0,none⟩),.int .i64 (wrap64 (bt t168 0))] rfl (by (try simp only [List.map_toArray,List.map_cons,List.map_nil]);first|done|rfl|(simp only [List.length_drop,List.length_take];rfl)|(simp (disch:=omega) only [u64_in];rfl)) ?_;(with_reducible refine (pack_Reader_take.calls g t170 t171 (wrap64 (bt t168 0)) t172 true t174 t175 w0 _ ?side1 ?side2 A13.out).mono ?_);(case side1=>repeat (first|(with_reducible first|exact HI0.out|apply IsS74.alloc|apply IsS74.drewN|apply IsS74.drew|apply IsS74.set_0|apply IsS74.set_1)|exact HI0.out));(case side2=>repeat (first|(with_reducible first|exact HB.out|apply zl1|apply zl2|apply zl3|refine below_set ?_ (IsS74.ge HI0.out))|exact HB.out));rintro e w17 ⟨rfl,hi,hb,hk⟩;refine ⟨_,rfl,?_⟩;replace HK:=Aside0.mk (KeepBut.trans (by repeat (first|(with_reducible first|exact HK.out|apply KeepBut.set_|apply keep_drewN|apply keep_drew|apply keep_alloc)|exact HK.out)) hk (.inl rfl));replace HB:=Aside0.mk (hb);replace HI0:=Aside0.mk (hi);(try clear hb);(try clear hk);(try clear hi)))
      go_ret
      exact ⟨by first|(with_reducible rfl)|(simp only [isEmpty_bne,Bool.not_not] <;> rfl)|rfl|(simp [*,errW_none,errW_some] <;> rfl),by repeat (first|(with_reducible first|exact HI0.out|apply IsS74.alloc|apply IsS74.drewN|apply IsS74.drew|apply IsS74.set_0|apply IsS74.set_1)|exact HI0.out),by repeat (first|(with_reducible first|exact HB.out|apply zl1|apply zl2|apply zl3|refine below_set ?_ (IsS74.ge HI0.out))|exact HB.out),by repeat (first|(with_reducible first|exact HK.out|apply KeepBut.set_|apply keep_drewN|apply keep_drew|apply keep_alloc)|exact HK.out)⟩
     ·replace c14:=Bool.eq_false_iff.mpr c14
      subst c14
      have H1:(some (t172,s0_0,t175))=some (r1,r2,r3):=by rw [if_neg (show ¬ (false=true) by decide)] at H;exact H
      clear H
      have H:=H1
      clear H1
      simp only [Option.some.injEq,Prod.mk.injEq] at H
      obtain ⟨rfl,rfl,rfl⟩:=H
      obtain ⟨HGz18,hgz18⟩:=HI0.out
      have hcz18_0:=cellS74_0 HGz18
      have hcz18_1:=cellS74_1 HGz18
      have hfz18_0:=blk_frozen HGz18 0
      have hfz18_1:=blk_frozen HGz18 1
      clear HGz18 hgz18
      go_enter Tryd.func47,Tryd.ntmps47
      go_wp2_with (first|((with_reducible refine gate_callee (f:=46) rfl ?_);refine goesL_ (some 23) rfl rfl Tryd.func46 (by kernel_rfl) rfl #[.pointer (some ⟨g,0,none⟩),.int .i64 1] rfl (by (try simp only [List.map_toArray,List.map_cons,List.map_nil]);first|done|rfl|(simp only [List.length_drop,List.length_take];rfl)|(simp (disch:=omega) only [u64_in];rfl)) ?_;(with_reducible refine (pack_Reader_take.calls g s0_0 s0_1 1 t168 true t170 t171 w0 _ ?side1 ?side2 A4.out).mono ?_);(case side1=>repeat (first|(with_reducible first|exact HI0.out|apply IsS74.alloc|apply IsS74.drewN|apply IsS74.drew|apply IsS74.set_0|apply IsS74.set_1)|exact HI0.out));(case side2=>repeat (first|(with_reducible first|exact HB.out|apply zl1|apply zl2|apply zl3|refine below_set ?_ (IsS74.ge HI0.out))|exact HB.out));rintro e w19 ⟨rfl,hi,hb,hk⟩;refine ⟨_,rfl,?_⟩;replace HK:=Aside0.mk (KeepBut.trans (by repeat (first|(with_reducible first|exact HK.out|apply KeepBut.set_|apply keep_drewN|apply keep_drew|apply keep_alloc)|exact HK.out)) hk (.inl rfl));replace HB:=Aside0.mk (hb);replace HI0:=Aside0.mk (hi);(try clear hb);(try clear hk);(try clear hi);have p7:0≤(0:Int):=(by omega);have q7:0 < t168.size:=(by have:(0:Int) < (t168.size:Int):=of_decide_eq_true (by first|(with_reducible assumption)|assumption);omega);have hx7:∀ h:0 < t168.size,((t168[0]'h).toNat:Int)=bt t168 0:=bt_at t168 0;clear p7;have qi7:(0 < (t168.size:Int))=True:=eq_true (of_decide_eq_true (by first|(with_reducible assumption)|assumption));replace q7:=eq_true q7;have p12:0≤(0:Int):=(by omega);have q12:0 < t168.size:=(by have:(0:Int) < (t168.size:Int):=of_decide_eq_true (by first|(with_reducible assumption)|assumption);omega);have hx12:∀ h:0 < t168.size,((t168[0]'h).toNat:Int)=bt t168 0:=bt_at t168 0;clear p12;have qi12:(0 < (t168.size:Int))=True:=eq_true (of_decide_eq_true (by first|(with_reducible assumption)|assumption));replace q12:=eq_true q12)|((with_reducible refine gate_callee (f:=46) rfl ?_);refine goesL_ (some 47) rfl rfl Tryd.func46 (by kernel_rfl) rfl #[.pointer (some ⟨g,0,none⟩),.int .i64 (wrap64 (bt t168 0))] rfl (by (try simp only [List.map_toArray,List.map_cons,List.map_nil]);first|done|rfl|(simp only [List.length_drop,List.length_take];rfl)|(simp (disch:=omega) only [u64_in];rfl)) ?_;(with_reducible refine (pack_Reader_take.calls g t170 t171 (wrap64 (bt t168 0)) t172 false t174 t175 w0 _ ?side1 ?side2 A13.out).mono ?_);(case side1=>repeat (first|(with_reducible first|exact HI0.out|apply IsS74.alloc|apply IsS74.drewN|apply IsS74.drew|apply IsS74.set_0|apply IsS74.set_1)|exact HI0.out));(case side2=>repeat (first|(with_reducible first|exact HB.out|apply zl1|apply zl2|apply zl3|refine below_set ?_ (IsS74.ge HI0.out))|exact HB.out));rintro e w20 ⟨rfl,hi,hb,hk⟩;refine ⟨_,rfl,?_⟩;replace HK:=Aside0.mk (KeepBut.trans (by repeat (first|(with_reducible first|exact HK.out|apply KeepBut.set_|apply keep_drewN|apply keep_drew|apply keep_alloc)|exact HK.out)) hk (.inl rfl));replace HB:=Aside0.mk (hb);replace HI0:=Aside0.mk (hi);(try clear hb);(try clear hk);(try clear hi);obtain ⟨HGz21,hgz21⟩:=HI0.out;have hcz21_0:=cellS74_0 HGz21;have hcz21_1:=cellS74_1 HGz21;have hfz21_0:=blk_frozen HGz21 0;have hfz21_1:=blk_frozen HGz21 1;clear HGz21 hgz21))
      go_ret
      exact ⟨by first|(with_reducible rfl)|(simp only [isEmpty_bne,Bool.not_not] <;> rfl)|rfl|(simp [*,errW_none,errW_some] <;> rfl),by repeat (first|(with_reducible first|exact HI0.out|apply IsS74.alloc|apply IsS74.drewN|apply IsS74.drew|apply IsS74.set_0|apply IsS74.set_1)|exact HI0.out),by repeat (first|(with_reducible first|exact HB.out|apply zl1|apply zl2|apply zl3|refine below_set ?_ (IsS74.ge HI0.out))|exact HB.out),by repeat (first|(with_reducible first|exact HK.out|apply KeepBut.set_|apply keep_drewN|apply keep_drew|apply keep_alloc)|exact HK.out)⟩
   ·rw [if_neg c6] at H
    exact absurd H (by simp)
  ·replace c5:=Bool.eq_false_iff.mpr c5
   subst c5
   have H1:(some ((⟨#[]⟩:ByteArray),t170,t171))=some (r1,r2,r3):=by rw [if_neg (show ¬ (false=true) by decide)] at H;exact H
   clear H
   have H:=H1
   clear H1
   simp only [Option.some.injEq,Prod.mk.injEq] at H
   obtain ⟨rfl,rfl,rfl⟩:=H
   obtain ⟨HGz22,hgz22⟩:=HI0.out
   have hcz22_0:=cellS74_0 HGz22
   have hcz22_1:=cellS74_1 HGz22
   have hfz22_0:=blk_frozen HGz22 0
   have hfz22_1:=blk_frozen HGz22 1
   clear HGz22 hgz22
   go_enter Tryd.func47,Tryd.ntmps47
   go_wp2_with (first|((with_reducible refine gate_callee (f:=46) rfl ?_);refine goesL_ (some 23) rfl rfl Tryd.func46 (by kernel_rfl) rfl #[.pointer (some ⟨g,0,none⟩),.int .i64 1] rfl (by (try simp only [List.map_toArray,List.map_cons,List.map_nil]);first|done|rfl|(simp only [List.length_drop,List.length_take];rfl)|(simp (disch:=omega) only [u64_in];rfl)) ?_;(with_reducible refine (pack_Reader_take.calls g s0_0 s0_1 1 t168 false t170 t171 w0 _ ?side1 ?side2 A4.out).mono ?_);(case side1=>repeat (first|(with_reducible first|exact HI0.out|apply IsS74.alloc|apply IsS74.drewN|apply IsS74.drew|apply IsS74.set_0|apply IsS74.set_1)|exact HI0.out));(case side2=>repeat (first|(with_reducible first|exact HB.out|apply zl1|apply zl2|apply zl3|refine below_set ?_ (IsS74.ge HI0.out))|exact HB.out));rintro e w23 ⟨rfl,hi,hb,hk⟩;refine ⟨_,rfl,?_⟩;replace HK:=Aside0.mk (KeepBut.trans (by repeat (first|(with_reducible first|exact HK.out|apply KeepBut.set_|apply keep_drewN|apply keep_drew|apply keep_alloc)|exact HK.out)) hk (.inl rfl));replace HB:=Aside0.mk (hb);replace HI0:=Aside0.mk (hi);(try clear hb);(try clear hk);(try clear hi)))
   go_ret
   exact ⟨by first|(with_reducible rfl)|(simp only [isEmpty_bne,Bool.not_not] <;> rfl)|rfl|(simp [*,errW_none,errW_some] <;> rfl),by repeat (first|(with_reducible first|exact HI0.out|apply IsS74.alloc|apply IsS74.drewN|apply IsS74.drew|apply IsS74.set_0|apply IsS74.set_1)|exact HI0.out),by repeat (first|(with_reducible first|exact HB.out|apply zl1|apply zl2|apply zl3|refine below_set ?_ (IsS74.ge HI0.out))|exact HB.out),by repeat (first|(with_reducible first|exact HK.out|apply KeepBut.set_|apply keep_drewN|apply keep_drew|apply keep_alloc)|exact HK.out)⟩
 ·rw [if_neg c3] at H
  have c3b0:(s0_1 == 0)=false:=beq_eq_false_iff_ne.mpr c3
  have c3b1:(s0_1 != 0)=true:=bne_iff_ne.mpr c3
  simp only [Option.some.injEq,Prod.mk.injEq] at H
  obtain ⟨rfl,rfl,rfl⟩:=H
  obtain ⟨HGz24,hgz24⟩:=HI0.out
  have hcz24_0:=cellS74_0 HGz24
  have hcz24_1:=cellS74_1 HGz24
  have hfz24_0:=blk_frozen HGz24 0
  have hfz24_1:=blk_frozen HGz24 1
  clear HGz24 hgz24
  go_enter Tryd.func47,Tryd.ntmps47
  go_wp2
  go_ret
  exact ⟨by first|(with_reducible rfl)|(simp only [isEmpty_bne,Bool.not_not] <;> rfl)|rfl|(simp [*,errW_none,errW_some] <;> rfl),by repeat (first|(with_reducible first|exact HI0.out|apply IsS74.alloc|apply IsS74.drewN|apply IsS74.drew|apply IsS74.set_0|apply IsS74.set_1)|exact HI0.out),by repeat (first|(with_reducible first|exact HB.out|apply zl1|apply zl2|apply zl3|refine below_set ?_ (IsS74.ge HI0.out))|exact HB.out),by repeat (first|(with_reducible first|exact HK.out|apply KeepBut.set_|apply keep_drewN|apply keep_drew|apply keep_alloc)|exact HK.out)⟩

end Go.Proofs.YtljfichnlgfikaaDoor.PAll
