/- Printed walks of the functions that the laws reach: each function, what it computes, and that it does. No conditions. -/
import Derived.Test.YtokjbncjapndgaaDoorPAllx0
import Derived.Test.YtokjbncjapndgaaDoorPAllx12
import Derived.Test.YtokjbncjapndgaaDoorPAllx13
namespace Go.Proofs.YtokjbncjapndgaaDoor.PAll
open Go.RowKit Go.Proofs.YtokjbncjapndgaaDoor.XW Go.Proofs.YtokjbncjapndgaaDoor.XLib Go.Proofs.YtokjbncjapndgaaDoorW.PrintWords Go.Proofs.YtokjbncjapndgaaDoorW.PrintLast Go.Proofs.YtokjbncjapndgaaDoorW.PrintMore
attribute [local go_sem] max2_int min2_int max_two min_two max_three min_three max_four min_four   -- for this text's walks alone
set_option linter.unusedVariables false
set_option linter.unusedSimpArgs false

/-! ### pack_Reader_Str: function 14 -/
def pack_Reader_Str.f (s0_0:ByteArray) (s0_1:Int) (a1:Int):Option (ByteArray × ByteArray × Int):=if s0_1=0 then ((pack_Reader_take.f s0_0 s0_1 1).bind fun bt226=>(if bt226.2.1=true then (if 0 < (bt226.1.size:Int) then (if (wrap64 (bt bt226.1 0)) > a1 then (some ((⟨#[]⟩:ByteArray),s0_0,3)) else ((pack_Reader_take.f bt226.2.2.1 bt226.2.2.2 (wrap64 (bt bt226.1 0))).bind fun bt230=>(if bt230.2.1=true then (some (bt230.1,bt230.2.2.1,bt230.2.2.2)) else (some (bt230.1,s0_0,bt230.2.2.2))))) else (none)) else (some ((⟨#[]⟩:ByteArray),bt226.2.2.1,bt226.2.2.2)))) else (some ((⟨#[]⟩:ByteArray),s0_0,s0_1))
set_option maxHeartbeats 8000000 in
set_option maxRecDepth 100000 in
theorem pack_Reader_Str.calls (g:Nat) (s0_0:ByteArray) (s0_1:Int) (a1:Int) (r1:ByteArray) (r2:ByteArray) (r3:Int) (w0 w:World) (hI:IsS62 w0 w g s0_0 s0_1) (hB:Below w0.heap.size w0 w) (h:pack_Reader_Str.f s0_0 s0_1 a1=some (r1,r2,r3)) :
  Calls Tryd.prog 14 #[.pointer (some ⟨g,0,none⟩),.int .i64 a1] w fun e w'=>e=.returned (.string r1)∧IsS62 w0 w' g r2 r3∧Below w0.heap.size w0 w'∧KeepBut w w' g none:=by
 have HI0:=Aside0.mk hI
 have HK:=Aside0.mk (KeepBut.refl w g none)
 have HL:=Aside0.mk hB.size
 clear hI
 have HW0:=Aside0.mk hB.size
 have HB:=Aside0.mk hB
 clear hB
 have H:(if s0_1=0 then ((pack_Reader_take.f s0_0 s0_1 1).bind fun bt226=>(if bt226.2.1=true then (if 0 < (bt226.1.size:Int) then (if (wrap64 (bt bt226.1 0)) > a1 then (some ((⟨#[]⟩:ByteArray),s0_0,3)) else ((pack_Reader_take.f bt226.2.2.1 bt226.2.2.2 (wrap64 (bt bt226.1 0))).bind fun bt230=>(if bt230.2.1=true then (some (bt230.1,bt230.2.2.1,bt230.2.2.2)) else (some (bt230.1,s0_0,bt230.2.2.2))))) else (none)) else (some ((⟨#[]⟩:ByteArray),bt226.2.2.1,bt226.2.2.2)))) else (some ((⟨#[]⟩:ByteArray),s0_0,s0_1)))=some (r1,r2,r3):=h
 clear h
 by_cases c3:s0_1=0
 ·rw [if_pos c3] at H
  have c3b0:(s0_1 == 0)=true:=beq_iff_eq.mpr c3
  have c3b1:(s0_1 != 0)=false:=bne_eq_false_iff_eq.mpr c3
  clear c3
  replace H:=Option.bind_eq_some_iff.mp H
  obtain ⟨⟨t226,t227,t228,t229⟩,A40,H⟩:=H
  replace H:(if t227=true then (if 0 < (t226.size:Int) then (if (wrap64 (bt t226 0)) > a1 then (some ((⟨#[]⟩:ByteArray),s0_0,3)) else ((pack_Reader_take.f t228 t229 (wrap64 (bt t226 0))).bind fun bt230=>(if bt230.2.1=true then (some (bt230.1,bt230.2.2.1,bt230.2.2.2)) else (some (bt230.1,s0_0,bt230.2.2.2))))) else (none)) else (some ((⟨#[]⟩:ByteArray),t228,t229)))=some (r1,r2,r3):=H
  have A4:=Aside0.mk A40
  clear A40
  by_cases c5:t227=true
  ·subst c5
   have H1:(if 0 < (t226.size:Int) then (if (wrap64 (bt t226 0)) > a1 then (some ((⟨#[]⟩:ByteArray),s0_0,3)) else ((pack_Reader_take.f t228 t229 (wrap64 (bt t226 0))).bind fun bt230=>(if bt230.2.1=true then (some (bt230.1,bt230.2.2.1,bt230.2.2.2)) else (some (bt230.1,s0_0,bt230.2.2.2))))) else (none))=some (r1,r2,r3):=by rw [if_pos rfl] at H;exact H
   clear H
   have H:=H1
   clear H1
   by_cases c6:0 < (t226.size:Int)
   ·rw [if_pos c6] at H
    have c6b0:decide (0 < (t226.size:Int))=true:=decide_eq_true c6
    have c6b1:decide (0 < t226.size)=true:=decide_eq_true (by omega)
    clear c6
    by_cases c8:(wrap64 (bt t226 0)) > a1
    ·rw [if_pos c8] at H
     have c8b0:decide (a1 < (wrap64 (bt t226 0)))=true:=decide_eq_true c8
     clear c8
     simp only [Option.some.injEq,Prod.mk.injEq] at H
     obtain ⟨rfl,rfl,rfl⟩:=H
     obtain ⟨HGz9,hgz9⟩:=HI0.out
     have hcz9_0:=cellS62_0 HGz9
     have hcz9_1:=cellS62_1 HGz9
     have hfz9_0:=blk_frozen HGz9 0
     have hfz9_1:=blk_frozen HGz9 1
     clear HGz9 hgz9
     go_enter Tryd.func14,Tryd.ntmps14
     go_wp2_with (first|((with_reducible refine gate_callee (f:=30) rfl ?_);refine goesL_ (some 23) rfl rfl Tryd.func30 (by kernel_rfl) rfl #[.pointer (some ⟨g,0,none⟩),.int .i64 1] rfl (by (try simp only [List.map_toArray,List.map_cons,List.map_nil]);first|done|rfl|(simp only [List.length_drop,List.length_take];rfl)|(simp (disch:=omega) only [u64_in];rfl)) ?_;(with_reducible refine (pack_Reader_take.calls g s0_0 s0_1 1 t226 true t228 t229 w0 _ ?side1 ?side2 A4.out).mono ?_);(case side1=>repeat (first|(with_reducible first|exact HI0.out|apply IsS62.alloc|apply IsS62.drewN|apply IsS62.drew|apply IsS62.set_0|apply IsS62.set_1)|exact HI0.out));(case side2=>repeat (first|(with_reducible first|exact HB.out|apply zl1|apply zl2|apply zl3|refine below_set ?_ (IsS62.ge HI0.out))|exact HB.out));rintro e w10 ⟨rfl,hi,hb,hk⟩;refine ⟨_,rfl,?_⟩;replace HK:=Aside0.mk (KeepBut.trans (by repeat (first|(with_reducible first|exact HK.out|apply KeepBut.set_|apply keep_drewN|apply keep_drew|apply keep_alloc)|exact HK.out)) hk (.inl rfl));replace HB:=Aside0.mk (hb);replace HI0:=Aside0.mk (hi);(try clear hb);(try clear hk);(try clear hi);have p7:0≤(0:Int):=(by omega);have q7:0 < t226.size:=(by have:(0:Int) < (t226.size:Int):=of_decide_eq_true (by first|(with_reducible assumption)|assumption);omega);have hx7:∀ h:0 < t226.size,((t226[0]'h).toNat:Int)=bt t226 0:=bt_at t226 0;clear p7;have qi7:(0 < (t226.size:Int))=True:=eq_true (of_decide_eq_true (by first|(with_reducible assumption)|assumption));replace q7:=eq_true q7;obtain ⟨HGz11,hgz11⟩:=HI0.out;have hcz11_0:=cellS62_0 HGz11;have hcz11_1:=cellS62_1 HGz11;have hfz11_0:=blk_frozen HGz11 0;have hfz11_1:=blk_frozen HGz11 1;clear HGz11 hgz11))
     go_ret
     exact ⟨by first|(with_reducible rfl)|(simp only [isEmpty_bne,Bool.not_not] <;> rfl)|rfl|(simp [*,errW_none,errW_some] <;> rfl),by repeat (first|(with_reducible first|exact HI0.out|apply IsS62.alloc|apply IsS62.drewN|apply IsS62.drew|apply IsS62.set_0|apply IsS62.set_1)|exact HI0.out),by repeat (first|(with_reducible first|exact HB.out|apply zl1|apply zl2|apply zl3|refine below_set ?_ (IsS62.ge HI0.out))|exact HB.out),by repeat (first|(with_reducible first|exact HK.out|apply KeepBut.set_|apply keep_drewN|apply keep_drew|apply keep_alloc)|exact HK.out)⟩
    ·rw [if_neg c8] at H
     have c8b0:decide (a1 < (wrap64 (bt t226 0)))=false:=decide_eq_false c8
     clear c8
     replace H:=Option.bind_eq_some_iff.mp H
     obtain ⟨⟨t230,t231,t232,t233⟩,A130,H⟩:=H
     replace H:(if t231=true then (some (t230,t232,t233)) else (some (t230,s0_0,t233)))=some (r1,r2,r3):=H
     have A13:=Aside0.mk A130
     clear A130
     by_cases c14:t231=true
     ·subst c14
      have H1:(some (t230,t232,t233))=some (r1,r2,r3):=by rw [if_pos rfl] at H;exact H
      clear H
      have H:=H1
      clear H1
      simp only [Option.some.injEq,Prod.mk.injEq] at H
      obtain ⟨rfl,rfl,rfl⟩:=H
      obtain ⟨HGz15,hgz15⟩:=HI0.out
      have hcz15_0:=cellS62_0 HGz15
      have hcz15_1:=cellS62_1 HGz15
      have hfz15_0:=blk_frozen HGz15 0
      have hfz15_1:=blk_frozen HGz15 1
      clear HGz15 hgz15
      go_enter Tryd.func14,Tryd.ntmps14
      go_wp2_with (first|((with_reducible refine gate_callee (f:=30) rfl ?_);refine goesL_ (some 23) rfl rfl Tryd.func30 (by kernel_rfl) rfl #[.pointer (some ⟨g,0,none⟩),.int .i64 1] rfl (by (try simp only [List.map_toArray,List.map_cons,List.map_nil]);first|done|rfl|(simp only [List.length_drop,List.length_take];rfl)|(simp (disch:=omega) only [u64_in];rfl)) ?_;(with_reducible refine (pack_Reader_take.calls g s0_0 s0_1 1 t226 true t228 t229 w0 _ ?side1 ?side2 A4.out).mono ?_);(case side1=>repeat (first|(with_reducible first|exact HI0.out|apply IsS62.alloc|apply IsS62.drewN|apply IsS62.drew|apply IsS62.set_0|apply IsS62.set_1)|exact HI0.out));(case side2=>repeat (first|(with_reducible first|exact HB.out|apply zl1|apply zl2|apply zl3|refine below_set ?_ (IsS62.ge HI0.out))|exact HB.out));rintro e w16 ⟨rfl,hi,hb,hk⟩;refine ⟨_,rfl,?_⟩;replace HK:=Aside0.mk (KeepBut.trans (by repeat (first|(with_reducible first|exact HK.out|apply KeepBut.set_|apply keep_drewN|apply keep_drew|apply keep_alloc)|exact HK.out)) hk (.inl rfl));replace HB:=Aside0.mk (hb);replace HI0:=Aside0.mk (hi);(try clear hb);(try clear hk);(try clear hi);have p7:0≤(0:Int):=(by omega);have q7:0 < t226.size:=(by have:(0:Int) < (t226.size:Int):=of_decide_eq_true (by first|(with_reducible assumption)|assumption);omega);have hx7:∀ h:0 < t226.size,((t226[0]'h).toNat:Int)=bt t226 0:=bt_at t226 0;clear p7;have qi7:(0 < (t226.size:Int))=True:=eq_true (of_decide_eq_true (by first|(with_reducible assumption)|assumption));replace q7:=eq_true q7;have p12:0≤(0:Int):=(by omega);have q12:0 < t226.size:=(by have:(0:Int) < (t226.size:Int):=of_decide_eq_true (by first|(with_reducible assumption)|assumption);omega);have hx12:∀ h:0 < t226.size,((t226[0]'h).toNat:Int)=bt t226 0:=bt_at t226 0;clear p12;have qi12:(0 < (t226.size:Int))=True:=eq_true (of_decide_eq_true (by first|(with_reducible assumption)|assumption));replace q12:=eq_true q12)|((with_reducible refine gate_callee (f:=30) rfl ?_);refine goesL_ (some 47) rfl rfl Tryd.func30 (by kernel_rfl) rfl #[.pointer (some ⟨g,0,none⟩),.int .i64 (wrap64 (bt t226 0))] rfl (by (try simp only [List.map_toArray,List.map_cons,List.map_nil]);first|done|rfl|(simp only [List.length_drop,List.length_take];rfl)|(simp (disch:=omega) only [u64_in];rfl)) ?_;(with_reducible refine (pack_Reader_take.calls g t228 t229 (wrap64 (bt t226 0)) t230 true t232 t233 w0 _ ?side1 ?side2 A13.out).mono ?_);(case side1=>repeat (first|(with_reducible first|exact HI0.out|apply IsS62.alloc|apply IsS62.drewN|apply IsS62.drew|apply IsS62.set_0|apply IsS62.set_1)|exact HI0.out));(case side2=>repeat (first|(with_reducible first|exact HB.out|apply zl1|apply zl2|apply zl3|refine below_set ?_ (IsS62.ge HI0.out))|exact HB.out));rintro e w17 ⟨rfl,hi,hb,hk⟩;refine ⟨_,rfl,?_⟩;replace HK:=Aside0.mk (KeepBut.trans (by repeat (first|(with_reducible first|exact HK.out|apply KeepBut.set_|apply keep_drewN|apply keep_drew|apply keep_alloc)|exact HK.out)) hk (.inl rfl));replace HB:=Aside0.mk (hb);replace HI0:=Aside0.mk (hi);(try clear hb);(try clear hk);(try clear hi)))
      go_ret
      exact ⟨by first|(with_reducible rfl)|(simp only [isEmpty_bne,Bool.not_not] <;> rfl)|rfl|(simp [*,errW_none,errW_some] <;> rfl),by repeat (first|(with_reducible first|exact HI0.out|apply IsS62.alloc|apply IsS62.drewN|apply IsS62.drew|apply IsS62.set_0|apply IsS62.set_1)|exact HI0.out),by repeat (first|(with_reducible first|exact HB.out|apply zl1|apply zl2|apply zl3|refine below_set ?_ (IsS62.ge HI0.out))|exact HB.out),by repeat (first|(with_reducible first|exact HK.out|apply KeepBut.set_|apply keep_drewN|apply keep_drew|apply keep_alloc)|exact HK.out)⟩
     ·replace c14:=Bool.eq_false_iff.mpr c14
      subst c14
      have H1:(some (t230,s0_0,t233))=some (r1,r2,r3):=by rw [if_neg (show ¬ (false=true) by decide)] at H;exact H
      clear H
      have H:=H1
      clear H1
      simp only [Option.some.injEq,Prod.mk.injEq] at H
      obtain ⟨rfl,rfl,rfl⟩:=H
      obtain ⟨HGz18,hgz18⟩:=HI0.out
      have hcz18_0:=cellS62_0 HGz18
      have hcz18_1:=cellS62_1 HGz18
      have hfz18_0:=blk_frozen HGz18 0
      have hfz18_1:=blk_frozen HGz18 1
      clear HGz18 hgz18
      go_enter Tryd.func14,Tryd.ntmps14
      go_wp2_with (first|((with_reducible refine gate_callee (f:=30) rfl ?_);refine goesL_ (some 23) rfl rfl Tryd.func30 (by kernel_rfl) rfl #[.pointer (some ⟨g,0,none⟩),.int .i64 1] rfl (by (try simp only [List.map_toArray,List.map_cons,List.map_nil]);first|done|rfl|(simp only [List.length_drop,List.length_take];rfl)|(simp (disch:=omega) only [u64_in];rfl)) ?_;(with_reducible refine (pack_Reader_take.calls g s0_0 s0_1 1 t226 true t228 t229 w0 _ ?side1 ?side2 A4.out).mono ?_);(case side1=>repeat (first|(with_reducible first|exact HI0.out|apply IsS62.alloc|apply IsS62.drewN|apply IsS62.drew|apply IsS62.set_0|apply IsS62.set_1)|exact HI0.out));(case side2=>repeat (first|(with_reducible first|exact HB.out|apply zl1|apply zl2|apply zl3|refine below_set ?_ (IsS62.ge HI0.out))|exact HB.out));rintro e w19 ⟨rfl,hi,hb,hk⟩;refine ⟨_,rfl,?_⟩;replace HK:=Aside0.mk (KeepBut.trans (by repeat (first|(with_reducible first|exact HK.out|apply KeepBut.set_|apply keep_drewN|apply keep_drew|apply keep_alloc)|exact HK.out)) hk (.inl rfl));replace HB:=Aside0.mk (hb);replace HI0:=Aside0.mk (hi);(try clear hb);(try clear hk);(try clear hi);have p7:0≤(0:Int):=(by omega);have q7:0 < t226.size:=(by have:(0:Int) < (t226.size:Int):=of_decide_eq_true (by first|(with_reducible assumption)|assumption);omega);have hx7:∀ h:0 < t226.size,((t226[0]'h).toNat:Int)=bt t226 0:=bt_at t226 0;clear p7;have qi7:(0 < (t226.size:Int))=True:=eq_true (of_decide_eq_true (by first|(with_reducible assumption)|assumption));replace q7:=eq_true q7;have p12:0≤(0:Int):=(by omega);have q12:0 < t226.size:=(by have:(0:Int) < (t226.size:Int):=of_decide_eq_true (by first|(with_reducible assumption)|assumption);omega);have hx12:∀ h:0 < t226.size,((t226[0]'h).toNat:Int)=bt t226 0:=bt_at t226 0;clear p12;have qi12:(0 < (t226.size:Int))=True:=eq_true (of_decide_eq_true (by first|(with_reducible assumption)|assumption));replace q12:=eq_true q12)|((with_reducible refine gate_callee (f:=30) rfl ?_);refine goesL_ (some 47) rfl rfl Tryd.func30 (by kernel_rfl) rfl #[.pointer (some ⟨g,0,none⟩),.int .i64 (wrap64 (bt t226 0))] rfl (by (try simp only [List.map_toArray,List.map_cons,List.map_nil]);first|done|rfl|(simp only [List.length_drop,List.length_take];rfl)|(simp (disch:=omega) only [u64_in];rfl)) ?_;(with_reducible refine (pack_Reader_take.calls g t228 t229 (wrap64 (bt t226 0)) t230 false t232 t233 w0 _ ?side1 ?side2 A13.out).mono ?_);(case side1=>repeat (first|(with_reducible first|exact HI0.out|apply IsS62.alloc|apply IsS62.drewN|apply IsS62.drew|apply IsS62.set_0|apply IsS62.set_1)|exact HI0.out));(case side2=>repeat (first|(with_reducible first|exact HB.out|apply zl1|apply zl2|apply zl3|refine below_set ?_ (IsS62.ge HI0.out))|exact HB.out));rintro e w20 ⟨rfl,hi,hb,hk⟩;refine ⟨_,rfl,?_⟩;replace HK:=Aside0.mk (KeepBut.trans (by repeat (first|(with_reducible first|exact HK.out|apply KeepBut.set_|apply keep_drewN|apply keep_drew|apply keep_alloc)|exact HK.out)) hk (.inl rfl));replace HB:=Aside0.mk (hb);replace HI0:=Aside0.mk (hi);(try clear hb);(try clear hk);(try clear hi);obtain ⟨HGz21,hgz21⟩:=HI0.out;have hcz21_0:=cellS62_0 HGz21;have hcz21_1:=cellS62_1 HGz21;have hfz21_0:=blk_frozen HGz21 0;have hfz21_1:=blk_frozen HGz21 1;clear HGz21 hgz21))
      go_ret
      exact ⟨by first|(with_reducible rfl)|(simp only [isEmpty_bne,Bool.not_not] <;> rfl)|rfl|(simp [*,errW_none,errW_some] <;> rfl),by repeat (first|(with_reducible first|exact HI0.out|apply IsS62.alloc|apply IsS62.drewN|apply IsS62.drew|apply IsS62.set_0|apply IsS62.set_1)|exact HI0.out),by repeat (first|(with_reducible first|exact HB.out|apply zl1|apply zl2|apply zl3|refine below_set ?_ (IsS62.ge HI0.out))|exact HB.out),by repeat (first|(with_reducible first|exact HK.out|apply KeepBut.set_|apply keep_drewN|apply keep_drew|apply keep_alloc)|exact HK.out)⟩
   ·rw [if_neg c6] at H
    exact absurd H (by simp)
  ·replace c5:=Bool.eq_false_iff.mpr c5
   subst c5
   have H1:(some ((⟨#[]⟩:ByteArray),t228,t229))=some (r1,r2,r3):=by rw [if_neg (show ¬ (false=true) by decide)] at H;exact H
   clear H
   have H:=H1
   clear H1
   simp only [Option.some.injEq,Prod.mk.injEq] at H
   obtain ⟨rfl,rfl,rfl⟩:=H
   obtain ⟨HGz22,hgz22⟩:=HI0.out
   have hcz22_0:=cellS62_0 HGz22
   have hcz22_1:=cellS62_1 HGz22
   have hfz22_0:=blk_frozen HGz22 0
   have hfz22_1:=blk_frozen HGz22 1
   clear HGz22 hgz22
   go_enter Tryd.func14,Tryd.ntmps14
   go_wp2_with (first|((with_reducible refine gate_callee (f:=30) rfl ?_);refine goesL_ (some 23) rfl rfl Tryd.func30 (by kernel_rfl) rfl #[.pointer (some ⟨g,0,none⟩),.int .i64 1] rfl (by (try simp only [List.map_toArray,List.map_cons,List.map_nil]);first|done|rfl|(simp only [List.length_drop,List.length_take];rfl)|(simp (disch:=omega) only [u64_in];rfl)) ?_;(with_reducible refine (pack_Reader_take.calls g s0_0 s0_1 1 t226 false t228 t229 w0 _ ?side1 ?side2 A4.out).mono ?_);(case side1=>repeat (first|(with_reducible first|exact HI0.out|apply IsS62.alloc|apply IsS62.drewN|apply IsS62.drew|apply IsS62.set_0|apply IsS62.set_1)|exact HI0.out));(case side2=>repeat (first|(with_reducible first|exact HB.out|apply zl1|apply zl2|apply zl3|refine below_set ?_ (IsS62.ge HI0.out))|exact HB.out));rintro e w23 ⟨rfl,hi,hb,hk⟩;refine ⟨_,rfl,?_⟩;replace HK:=Aside0.mk (KeepBut.trans (by repeat (first|(with_reducible first|exact HK.out|apply KeepBut.set_|apply keep_drewN|apply keep_drew|apply keep_alloc)|exact HK.out)) hk (.inl rfl));replace HB:=Aside0.mk (hb);replace HI0:=Aside0.mk (hi);(try clear hb);(try clear hk);(try clear hi)))
   go_ret
   exact ⟨by first|(with_reducible rfl)|(simp only [isEmpty_bne,Bool.not_not] <;> rfl)|rfl|(simp [*,errW_none,errW_some] <;> rfl),by repeat (first|(with_reducible first|exact HI0.out|apply IsS62.alloc|apply IsS62.drewN|apply IsS62.drew|apply IsS62.set_0|apply IsS62.set_1)|exact HI0.out),by repeat (first|(with_reducible first|exact HB.out|apply zl1|apply zl2|apply zl3|refine below_set ?_ (IsS62.ge HI0.out))|exact HB.out),by repeat (first|(with_reducible first|exact HK.out|apply KeepBut.set_|apply keep_drewN|apply keep_drew|apply keep_alloc)|exact HK.out)⟩
 ·rw [if_neg c3] at H
  have c3b0:(s0_1 == 0)=false:=beq_eq_false_iff_ne.mpr c3
  have c3b1:(s0_1 != 0)=true:=bne_iff_ne.mpr c3
  simp only [Option.some.injEq,Prod.mk.injEq] at H
  obtain ⟨rfl,rfl,rfl⟩:=H
  obtain ⟨HGz24,hgz24⟩:=HI0.out
  have hcz24_0:=cellS62_0 HGz24
  have hcz24_1:=cellS62_1 HGz24
  have hfz24_0:=blk_frozen HGz24 0
  have hfz24_1:=blk_frozen HGz24 1
  clear HGz24 hgz24
  go_enter Tryd.func14,Tryd.ntmps14
  go_wp2
  go_ret
  exact ⟨by first|(with_reducible rfl)|(simp only [isEmpty_bne,Bool.not_not] <;> rfl)|rfl|(simp [*,errW_none,errW_some] <;> rfl),by repeat (first|(with_reducible first|exact HI0.out|apply IsS62.alloc|apply IsS62.drewN|apply IsS62.drew|apply IsS62.set_0|apply IsS62.set_1)|exact HI0.out),by repeat (first|(with_reducible first|exact HB.out|apply zl1|apply zl2|apply zl3|refine below_set ?_ (IsS62.ge HI0.out))|exact HB.out),by repeat (first|(with_reducible first|exact HK.out|apply KeepBut.set_|apply keep_drewN|apply keep_drew|apply keep_alloc)|exact HK.out)⟩

/-! ### pack_Reader_Left: function 16 -/
def pack_Reader_Left.f (s0_0:ByteArray) (s0_1:Int):Option (Int × ByteArray × Int):=some ((s0_0.size:Int),s0_0,s0_1)
set_option maxHeartbeats 8000000 in
set_option maxRecDepth 100000 in
theorem pack_Reader_Left.calls (g:Nat) (s0_0:ByteArray) (s0_1:Int) (r1:Int) (r2:ByteArray) (r3:Int) (w0 w:World) (hI:IsS62 w0 w g s0_0 s0_1) (hB:Below w0.heap.size w0 w) (h:pack_Reader_Left.f s0_0 s0_1=some (r1,r2,r3)) :
  Calls Tryd.prog 16 #[.pointer (some ⟨g,0,none⟩)] w fun e w'=>e=.returned (.int .i64 r1)∧IsS62 w0 w' g r2 r3∧Below w0.heap.size w0 w'∧KeepBut w w' g none:=by
 have HI0:=Aside0.mk hI
 have HK:=Aside0.mk (KeepBut.refl w g none)
 have HL:=Aside0.mk hB.size
 clear hI
 have HW0:=Aside0.mk hB.size
 have HB:=Aside0.mk hB
 clear hB
 have H:(some ((s0_0.size:Int),s0_0,s0_1))=some (r1,r2,r3):=h
 clear h
 simp only [Option.some.injEq,Prod.mk.injEq] at H
 obtain ⟨rfl,rfl,rfl⟩:=H
 obtain ⟨HGz2,hgz2⟩:=HI0.out
 have hcz2_0:=cellS62_0 HGz2
 have hcz2_1:=cellS62_1 HGz2
 have hfz2_0:=blk_frozen HGz2 0
 have hfz2_1:=blk_frozen HGz2 1
 clear HGz2 hgz2
 go_enter Tryd.func16,Tryd.ntmps16
 go_wp2
 go_ret
 exact ⟨by first|(with_reducible rfl)|(simp only [isEmpty_bne,Bool.not_not] <;> rfl)|rfl|(simp [*,errW_none,errW_some] <;> rfl),by repeat (first|(with_reducible first|exact HI0.out|apply IsS62.alloc|apply IsS62.drewN|apply IsS62.drew|apply IsS62.set_0|apply IsS62.set_1)|exact HI0.out),by repeat (first|(with_reducible first|exact HB.out|apply zl1|apply zl2|apply zl3|refine below_set ?_ (IsS62.ge HI0.out))|exact HB.out),by repeat (first|(with_reducible first|exact HK.out|apply KeepBut.set_|apply keep_drewN|apply keep_drew|apply keep_alloc)|exact HK.out)⟩

/-! ### pack_Reader_Raw: function 15 -/
def pack_Reader_Raw.f (s0_0:ByteArray) (s0_1:Int) (a1:Int):Option (ByteArray × ByteArray × Int):=(pack_Reader_take.f s0_0 s0_1 (mx a1 0)).bind fun bt234=>(some (bt234.1,bt234.2.2.1,bt234.2.2.2))
set_option maxHeartbeats 8000000 in
set_option maxRecDepth 100000 in
theorem pack_Reader_Raw.calls (g:Nat) (s0_0:ByteArray) (s0_1:Int) (a1:Int) (r1:ByteArray) (r2:ByteArray) (r3:Int) (w0 w:World) (hI:IsS62 w0 w g s0_0 s0_1) (hB:Below w0.heap.size w0 w) (h:pack_Reader_Raw.f s0_0 s0_1 a1=some (r1,r2,r3)) :
  Calls Tryd.prog 15 #[.pointer (some ⟨g,0,none⟩),.int .i64 a1] w fun e w'=>e=.returned (.string r1)∧IsS62 w0 w' g r2 r3∧Below w0.heap.size w0 w'∧KeepBut w w' g none:=by
 have HI0:=Aside0.mk hI
 have HK:=Aside0.mk (KeepBut.refl w g none)
 have HL:=Aside0.mk hB.size
 clear hI
 have HW0:=Aside0.mk hB.size
 have HB:=Aside0.mk hB
 clear hB
 have H:((pack_Reader_take.f s0_0 s0_1 (mx a1 0)).bind fun bt234=>(some (bt234.1,bt234.2.2.1,bt234.2.2.2)))=some (r1,r2,r3):=h
 clear h
 obtain ⟨ji3,hji3⟩:∃ j_:Int,(mx a1 0)=j_:=⟨_,rfl⟩
 replace H:((pack_Reader_take.f s0_0 s0_1 (ji3)).bind fun bt234=>(some (bt234.1,bt234.2.2.1,bt234.2.2.2)))=some (r1,r2,r3):=by first|(rw [hji3] at H;exact H)|(simp only [hji3] at H ⊢;exact H)
 (try (have hji3l:0≤ji3:=by (rw [← hji3];unfold mx;(repeat' split) <;> omega)))
 (try (have hji3m:0≤ji3:=by omega))
 have hji3_:(if a1 < 0 then 0 else a1)=ji3:=hji3
 replace H:=Option.bind_eq_some_iff.mp H
 obtain ⟨⟨t234,t235,t236,t237⟩,A40,H⟩:=H
 replace H:(some (t234,t236,t237))=some (r1,r2,r3):=H
 have A4:=Aside0.mk A40
 clear A40
 simp only [Option.some.injEq,Prod.mk.injEq] at H
 obtain ⟨rfl,rfl,rfl⟩:=H
 go_enter Tryd.func15,Tryd.ntmps15
 go_wp2_with (first|((with_reducible refine gate_callee (f:=30) rfl ?_);refine goesL_ (some 11) rfl rfl Tryd.func30 (by kernel_rfl) rfl #[.pointer (some ⟨g,0,none⟩),.int .i64 ji3] rfl (by (try simp only [List.map_toArray,List.map_cons,List.map_nil]);first|done|(simp only [hji3];rfl)|rfl|(simp only [List.length_drop,List.length_take];rfl)|(simp (disch:=omega) only [u64_in];rfl)) ?_;(with_reducible refine (pack_Reader_take.calls g s0_0 s0_1 ji3 t234 t235 t236 t237 w0 _ ?side1 ?side2 A4.out).mono ?_);(case side1=>repeat (first|(with_reducible first|exact HI0.out|apply IsS62.alloc|apply IsS62.drewN|apply IsS62.drew|apply IsS62.set_0|apply IsS62.set_1)|exact HI0.out));(case side2=>repeat (first|(with_reducible first|exact HB.out|apply zl1|apply zl2|apply zl3|refine below_set ?_ (IsS62.ge HI0.out))|exact HB.out));rintro e w5 ⟨rfl,hi,hb,hk⟩;refine ⟨_,rfl,?_⟩;replace HK:=Aside0.mk (KeepBut.trans (by repeat (first|(with_reducible first|exact HK.out|apply KeepBut.set_|apply keep_drewN|apply keep_drew|apply keep_alloc)|exact HK.out)) hk (.inl rfl));replace HB:=Aside0.mk (hb);replace HI0:=Aside0.mk (hi);(try clear hb);(try clear hk);(try clear hi)))
 go_ret
 exact ⟨by first|(with_reducible rfl)|(simp only [isEmpty_bne,Bool.not_not] <;> with_reducible rfl)|(simp [errW_none,errW_some] <;> with_reducible rfl)|(simp only [isEmpty_bne,Bool.not_not] <;> rfl)|rfl|(simp [errW_none,errW_some] <;> rfl)|(simp only [← hji3];first|rfl|(simp [errW_none,errW_some] <;> rfl))|(simp [*,errW_none,errW_some] <;> rfl),by repeat (first|(with_reducible first|exact HI0.out|apply IsS62.alloc|apply IsS62.drewN|apply IsS62.drew|apply IsS62.set_0|apply IsS62.set_1)|exact HI0.out),by repeat (first|(with_reducible first|exact HB.out|apply zl1|apply zl2|apply zl3|refine below_set ?_ (IsS62.ge HI0.out))|exact HB.out),by repeat (first|(with_reducible first|exact HK.out|apply KeepBut.set_|apply keep_drewN|apply keep_drew|apply keep_alloc)|exact HK.out)⟩

/-! ### pack_Reader_Err: function 17 -/
def pack_Reader_Err.f (s0_0:ByteArray) (s0_1:Int):Option (Int × ByteArray × Int):=some (s0_1,s0_0,s0_1)
set_option maxHeartbeats 8000000 in
set_option maxRecDepth 100000 in
theorem pack_Reader_Err.calls (g:Nat) (s0_0:ByteArray) (s0_1:Int) (r1:Int) (r2:ByteArray) (r3:Int) (w0 w:World) (hI:IsS62 w0 w g s0_0 s0_1) (hB:Below w0.heap.size w0 w) (h:pack_Reader_Err.f s0_0 s0_1=some (r1,r2,r3)) :
  Calls Tryd.prog 17 #[.pointer (some ⟨g,0,none⟩)] w fun e w'=>e=.returned (.int .i64 r1)∧IsS62 w0 w' g r2 r3∧Below w0.heap.size w0 w'∧KeepBut w w' g none:=by
 have HI0:=Aside0.mk hI
 have HK:=Aside0.mk (KeepBut.refl w g none)
 have HL:=Aside0.mk hB.size
 clear hI
 have HW0:=Aside0.mk hB.size
 have HB:=Aside0.mk hB
 clear hB
 have H:(some (s0_1,s0_0,s0_1))=some (r1,r2,r3):=h
 clear h
 simp only [Option.some.injEq,Prod.mk.injEq] at H
 obtain ⟨rfl,rfl,rfl⟩:=H
 obtain ⟨HGz2,hgz2⟩:=HI0.out
 have hcz2_0:=cellS62_0 HGz2
 have hcz2_1:=cellS62_1 HGz2
 have hfz2_0:=blk_frozen HGz2 0
 have hfz2_1:=blk_frozen HGz2 1
 clear HGz2 hgz2
 go_enter Tryd.func17,Tryd.ntmps17
 go_wp2
 go_ret
 exact ⟨by first|(with_reducible rfl)|(simp only [isEmpty_bne,Bool.not_not] <;> rfl)|rfl|(simp [*,errW_none,errW_some] <;> rfl),by repeat (first|(with_reducible first|exact HI0.out|apply IsS62.alloc|apply IsS62.drewN|apply IsS62.drew|apply IsS62.set_0|apply IsS62.set_1)|exact HI0.out),by repeat (first|(with_reducible first|exact HB.out|apply zl1|apply zl2|apply zl3|refine below_set ?_ (IsS62.ge HI0.out))|exact HB.out),by repeat (first|(with_reducible first|exact HK.out|apply KeepBut.set_|apply keep_drewN|apply keep_drew|apply keep_alloc)|exact HK.out)⟩

/-! ### strings_Trim: function 19 -/
def strings_Trim.f (a0:ByteArray) (a1:ByteArray):Option (ByteArray):=if a1.data.toList=[0]∧a0.size≤9223372036854775807 then some ⟨(Lib.trimB a0.data.toList 0).toArray⟩ else none
theorem strings_Trim.calls (a0:ByteArray) (a1:ByteArray) (r:ByteArray) (w:World) (h:strings_Trim.f a0 a1=some r) :
  Calls Tryd.prog 19 #[.string a0,.string a1] w fun e w'=>e=.returned (.string r)∧Below w.heap.size w w':=by
 unfold strings_Trim.f at h
 split at h
 case isFalse=>cases h
 rename_i hc
 obtain ⟨h0,h1⟩:=hc
 obtain rfl:=Option.some.inj h
 obtain rfl:a1=⟨#[0]⟩:=by
  cases a1;simp only at h0
  congr 1
  exact Array.toList_inj.1 h0
 refine (Any.strings_Trim_one Tryd.lays160 a0 0 (by decide) w h1).mono ?_
 rintro e w' ⟨rfl,rfl|rfl⟩
 ·exact ⟨rfl,Below.refl _ _⟩
 ·exact ⟨rfl,below_drew (Below.refl _ _)⟩

end Go.Proofs.YtokjbncjapndgaaDoor.PAll
