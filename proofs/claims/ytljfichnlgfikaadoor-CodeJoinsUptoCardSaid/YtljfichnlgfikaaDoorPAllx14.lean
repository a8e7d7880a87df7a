/- Printed walks of the functions that the laws reach: each function, what it computes, and that it does. No conditions. -/
import Derived.Test.YtljfichnlgfikaaDoorPAllx0
import Derived.Test.YtljfichnlgfikaaDoorPAllx9
import Derived.Test.YtljfichnlgfikaaDoorPAllx12
import Derived.Test.YtljfichnlgfikaaDoorPAllx13
namespace Go.Proofs.YtljfichnlgfikaaDoor.PAll
open Go.RowKit Go.Proofs.YtljfichnlgfikaaDoor.XW Go.Proofs.YtljfichnlgfikaaDoor.XLib Go.Proofs.YtljfichnlgfikaaDoorW.PrintWords Go.Proofs.YtljfichnlgfikaaDoorW.PrintLast Go.Proofs.YtljfichnlgfikaaDoorW.PrintMore
attribute [local go_sem] max2_int min2_int max_two min_two max_three min_three max_four min_four   -- for this text's walks alone
set_option linter.unusedVariables false
set_option linter.unusedSimpArgs false

/-! ### factotumlaw13_lives: function 8 -/
def factotumlaw13_lives.f (k:Nat) :Option (Bool):=(code_Write.f k (([(⟨1,1,0,0,(⟨1,5,(⟨#[]⟩:ByteArray)⟩:S40)⟩:S42),(⟨17,0,0,0,(⟨0,0,(⟨#[]⟩:ByteArray)⟩:S40)⟩:S42)]:List (S42)))).bind fun bt182=>((code_Read.f k (⟨#[1,1,1,0,0,0,0,0,0,0,5,17]⟩:ByteArray)).bind fun bt184=>(if bt182.2=0 then (if bt182.1.toList=([1,1,1,0,0,0,0,0,0,0,5,17]:List UInt8) then (if bt184.2=0 then (if (bt184.1.length:Int)=2 then (if 0 < (bt184.1.length:Int) then (if ((rd_T42 bt184.1 0).f4.f1)=5 then ((code_Same.f k bt184.1 bt184.1).bind fun t189=>(some t189)) else (none)) else (none)) else (none)) else (none)) else (none)) else (none)))
theorem factotumlaw13_lives.mono:∀ k,LeO (factotumlaw13_lives.f k ) (factotumlaw13_lives.f (k + 1) ):=by
 intro  k
 unfold factotumlaw13_lives.f
 repeat' first
   | (with_reducible exact code_Read.mono _ _)
   | (with_reducible exact code_Same.mono _ _ _)
   | (with_reducible exact code_Write.mono _ _)
   | (with_reducible exact LeO.refl _)
   | (with_reducible exact LeO.none _)
   | (with_reducible refine LeO.ite ?_ ?_)
   | (with_reducible refine LeO.bind ?_ (fun _=>?_))
   | exact code_Read.mono _ _
   | exact code_Same.mono _ _ _
   | exact code_Write.mono _ _
   | exact LeO.none _
   | refine LeO.ite ?_ ?_
   | refine LeO.bind ?_ (fun _=>?_)
set_option maxHeartbeats 8000000 in
set_option maxRecDepth 100000 in
theorem factotumlaw13_lives.calls (k:Nat)  (r:Bool) (w:World) (h:factotumlaw13_lives.f k =some r) :
  Calls Tryd.prog 8 #[] w fun e w'=>e=.returned (.bool r)∧Below w.heap.size w w':=by
 have hu40:=Tryd.underlying40
 have hu42:=Tryd.underlying42
 have HB:=Aside0.mk (Below.refl w.heap.size w)
 have H:((code_Write.f k (([(⟨1,1,0,0,(⟨1,5,(⟨#[]⟩:ByteArray)⟩:S40)⟩:S42),(⟨17,0,0,0,(⟨0,0,(⟨#[]⟩:ByteArray)⟩:S40)⟩:S42)]:List (S42)))).bind fun bt182=>((code_Read.f k (⟨#[1,1,1,0,0,0,0,0,0,0,5,17]⟩:ByteArray)).bind fun bt184=>(if bt182.2=0 then (if bt182.1.toList=([1,1,1,0,0,0,0,0,0,0,5,17]:List UInt8) then (if bt184.2=0 then (if (bt184.1.length:Int)=2 then (if 0 < (bt184.1.length:Int) then (if ((rd_T42 bt184.1 0).f4.f1)=5 then ((code_Same.f k bt184.1 bt184.1).bind fun t189=>(some t189)) else (none)) else (none)) else (none)) else (none)) else (none)) else (none))))=some r:=h
 clear h
 obtain ⟨y179,hy179⟩:∃ y_:List (S42),y_=(([(⟨1,1,0,0,(⟨1,5,(⟨#[]⟩:ByteArray)⟩:S40)⟩:S42),(⟨17,0,0,0,(⟨0,0,(⟨#[]⟩:ByteArray)⟩:S40)⟩:S42)]:List (S42))):=⟨_,rfl⟩
 replace H:((code_Write.f k y179).bind fun bt182=>((code_Read.f k (⟨#[1,1,1,0,0,0,0,0,0,0,5,17]⟩:ByteArray)).bind fun bt184=>(if bt182.2=0 then (if bt182.1.toList=([1,1,1,0,0,0,0,0,0,0,5,17]:List UInt8) then (if bt184.2=0 then (if (bt184.1.length:Int)=2 then (if 0 < (bt184.1.length:Int) then (if ((rd_T42 bt184.1 0).f4.f1)=5 then ((code_Same.f k bt184.1 bt184.1).bind fun t189=>(some t189)) else (none)) else (none)) else (none)) else (none)) else (none)) else (none))))=some r:=by first|(rw [hy179];with_reducible exact H)|(have H2_:=(Option.bind_some _ _).symm.trans H;rw [hy179];with_reducible exact H2_)|(have H2_:=(Option.bind_some _ _).symm.trans H;with_reducible exact H2_)|with_reducible exact H|(rw [hy179];exact H)|exact H
 have Ny179:=Aside0.mk hy179
 clear hy179
 replace H:=Option.bind_eq_some_iff.mp H
 obtain ⟨⟨t182,t183⟩,A10,H⟩:=H
 replace H:((code_Read.f k (⟨#[1,1,1,0,0,0,0,0,0,0,5,17]⟩:ByteArray)).bind fun bt184=>(if t183=0 then (if t182.toList=([1,1,1,0,0,0,0,0,0,0,5,17]:List UInt8) then (if bt184.2=0 then (if (bt184.1.length:Int)=2 then (if 0 < (bt184.1.length:Int) then (if ((rd_T42 bt184.1 0).f4.f1)=5 then ((code_Same.f k bt184.1 bt184.1).bind fun t189=>(some t189)) else (none)) else (none)) else (none)) else (none)) else (none)) else (none)))=some r:=H
 have A1:=Aside0.mk A10
 clear A10
 replace H:=Option.bind_eq_some_iff.mp H
 obtain ⟨⟨t184,t185⟩,A20,H⟩:=H
 replace H:(if t183=0 then (if t182.toList=([1,1,1,0,0,0,0,0,0,0,5,17]:List UInt8) then (if t185=0 then (if (t184.length:Int)=2 then (if 0 < (t184.length:Int) then (if ((rd_T42 t184 0).f4.f1)=5 then ((code_Same.f k t184 t184).bind fun t189=>(some t189)) else (none)) else (none)) else (none)) else (none)) else (none)) else (none))=some r:=H
 have A2:=Aside0.mk A20
 clear A20
 by_cases c3:t183=0
 ·rw [if_pos c3] at H
  have c3b0:(t183 == 0)=true:=beq_iff_eq.mpr c3
  have c3b1:(t183 != 0)=false:=bne_eq_false_iff_eq.mpr c3
  clear c3
  by_cases c4:t182.toList=([1,1,1,0,0,0,0,0,0,0,5,17]:List UInt8)
  ·rw [if_pos c4] at H
   have c4b0:(t182.toList == ([1,1,1,0,0,0,0,0,0,0,5,17]:List UInt8))=true:=beq_iff_eq.mpr c4
   have c4b1:(t182.toList != ([1,1,1,0,0,0,0,0,0,0,5,17]:List UInt8))=false:=bne_eq_false_iff_eq.mpr c4
   clear c4
   by_cases c5:t185=0
   ·rw [if_pos c5] at H
    have c5b0:(t185 == 0)=true:=beq_iff_eq.mpr c5
    have c5b1:(t185 != 0)=false:=bne_eq_false_iff_eq.mpr c5
    clear c5
    by_cases c6:(t184.length:Int)=2
    ·rw [if_pos c6] at H
     have c6b0:((t184.length:Int) == 2)=true:=beq_iff_eq.mpr c6
     have c6b1:((t184.length:Int) != 2)=false:=bne_eq_false_iff_eq.mpr c6
     clear c6
     by_cases c7:0 < (t184.length:Int)
     ·rw [if_pos c7] at H
      have c7b0:decide (0 < (t184.length:Int))=true:=decide_eq_true c7
      have c7b1:decide (0 < t184.length)=true:=decide_eq_true (by omega)
      clear c7
      by_cases c8:((rd_T42 t184 0).f4.f1)=5
      ·rw [if_pos c8] at H
       have c8b0:(((rd_T42 t184 0).f4.f1) == 5)=true:=beq_iff_eq.mpr c8
       have c8b1:(((rd_T42 t184 0).f4.f1) != 5)=false:=bne_eq_false_iff_eq.mpr c8
       clear c8
       replace H:=Option.bind_eq_some_iff.mp H
       obtain ⟨t189,A90,H⟩:=H
       replace H:(some t189)=some r:=H
       have A9:=Aside0.mk A90
       clear A90
       obtain rfl:=Option.some.inj H
       go_enter Tryd.func8,Tryd.ntmps8
       go_wp2_with (first|((with_reducible refine gate_dst (N:=9) rfl ?_);(try (refine gate_guard (by rfl) ?_;dsimp only));refine Kd.R_lit k42 _ 42 ?hg (N:=9) ?hd (xs:=([(⟨1,1,0,0,(⟨1,5,(⟨#[]⟩:ByteArray)⟩:S40)⟩:S42),(⟨17,0,0,0,(⟨0,0,(⟨#[]⟩:ByteArray)⟩:S40)⟩:S42)]:List (S42))) (inner:=[.int .i64 1,.int .i64 1,.int .i64 0,.int .i64 0,.int .i64 1,.int .i64 5,.string (⟨#[]⟩:ByteArray),.int .i64 17,.int .i64 0,.int .i64 0,.int .i64 0,.int .i64 0,.int .i64 0,.string (⟨#[]⟩:ByteArray)]) (ok:=fun _=>True) (okp:=fun _=>True) ?hr ?hp (fun _ hk=>hk) trivial (Below.refl _ _) (Nat.le_refl _) (by simp) ?_;(case hd=>rfl);(case hg=>rfl);(case hr=>first|(go_simp;done)|(go_simp;rfl));(case hp=>exact (Reps.c7 (show Kd.M k42 _ _ _ (⟨1,1,0,0,(⟨1,5,(⟨#[]⟩:ByteArray)⟩:S40)⟩:S42) [.int .i64 1,.int .i64 1,.int .i64 0,.int .i64 0,.int .i64 1,.int .i64 5,.string (⟨#[]⟩:ByteArray)] from (k42_mkM _ _ _ (⟨1,1,0,0,(⟨1,5,(⟨#[]⟩:ByteArray)⟩:S40)⟩:S42) )) (Reps.c7 (show Kd.M k42 _ _ _ (⟨17,0,0,0,(⟨0,0,(⟨#[]⟩:ByteArray)⟩:S40)⟩:S42) [.int .i64 17,.int .i64 0,.int .i64 0,.int .i64 0,.int .i64 0,.int .i64 0,.string (⟨#[]⟩:ByteArray)] from (k42_mkM _ _ _ (⟨17,0,0,0,(⟨0,0,(⟨#[]⟩:ByteArray)⟩:S40)⟩:S42) )) (Reps.none _ _))));intro v180 w10 ho11 hb hg_ hnew_;clear hg_ hnew_;(first|rw [← Ny179.out] at ho11|(simp only [Int.reduceToNat] at ho11;rw [← Ny179.out] at ho11));have HO181:=Aside0.mk (Kd.R_lower ho11 (below_size (by repeat (first|(with_reducible first|exact HB.out|apply zl1|apply zl2|apply zl3)|exact HB.out))));replace HB:=Aside0.mk (below_step (by repeat (first|(with_reducible first|exact HB.out|apply zl1|apply zl2|apply zl3)|exact HB.out)) hb);clear hb ho11;obtain ⟨Ao12,co12,eo12⟩:=Kd.R_slice HO181.out;subst eo12)|((with_reducible refine gate_callee (f:=9) rfl ?_);refine goesL_ (some 10) rfl rfl Tryd.func9 (by kernel_rfl) rfl #[.slice Ao12 y179.length co12] rfl (by (try simp only [List.map_toArray,List.map_cons,List.map_nil]);first|done|rfl|(simp only [List.length_drop,List.length_take];rfl)|(simp (disch:=omega) only [u64_in];rfl)) ?_;(with_reducible refine (code_Write.calls k _ _ y179 t182 t183 _ ?side1 ?side2 A1.out).mono ?_);(case side1=>repeat (first|exact (Kd.R_reads' HO181.out).2.2|(with_reducible refine Kd.C_alloc ?_ _)|(with_reducible refine Kd.C_drewN ?_ _)|(with_reducible refine Kd.C_drew ?_)));(case side2=>exact (Kd.R_reads' HO181.out).2.1);rintro e w13 ⟨rfl,hb⟩;refine ⟨_,rfl,?_⟩;replace HO181:=Aside0.mk (Kd.R_below (by (with_reducible repeat (first|apply zk1|apply zk2|apply zk3));exact HO181.out) hb);replace HB:=Aside0.mk (below_step (by repeat (first|(with_reducible first|exact HB.out|apply zl1|apply zl2|apply zl3)|exact HB.out)) hb);(try clear hb))|((with_reducible refine gate_callee (f:=11) rfl ?_);refine goesL_ (some 14) rfl rfl Tryd.func11 (by kernel_rfl) rfl #[.string (⟨#[1,1,1,0,0,0,0,0,0,0,5,17]⟩:ByteArray)] rfl (by (try simp only [List.map_toArray,List.map_cons,List.map_nil]);first|done|rfl|(simp only [List.length_drop,List.length_take];rfl)|(simp (disch:=omega) only [u64_in];rfl)) ?_;(with_reducible refine (code_Read.calls k (⟨#[1,1,1,0,0,0,0,0,0,0,5,17]⟩:ByteArray) t184 t185 _ A2.out).mono ?_);rintro e w14 ⟨v186,rfl,ho0,hb⟩;refine ⟨_,rfl,?_⟩;have HO187:=Aside0.mk (Kd.R_lower (Kd.R_new' ho0 (Kd.R_lt (by (with_reducible repeat (first|apply zk1|apply zk2|apply zk3));exact HO181.out))) (below_size (by repeat (first|(with_reducible first|exact HB.out|apply zl1|apply zl2|apply zl3)|exact HB.out))));replace HO181:=Aside0.mk (Kd.R_elder' (by (with_reducible repeat (first|apply zk1|apply zk2|apply zk3));exact HO181.out) (Kd.R_base ho0) hb);replace HB:=Aside0.mk (below_step (by repeat (first|(with_reducible first|exact HB.out|apply zl1|apply zl2|apply zl3)|exact HB.out)) hb);(try clear hb);(try clear ho0);obtain ⟨Ao15,co15,eo15⟩:=Kd.R_slice HO187.out;subst eo15;have p188:0≤(0:Int):=(by omega);have q188:0 < (t184.length:Int):=of_decide_eq_true (by first|(with_reducible assumption)|assumption);obtain ⟨ad188,e188,hx188_0,hx188_1,hx188_2,hx188_3,hx188_4,hx188_5,hx188_6⟩:=at_T42 (Kd.R_reads' HO187.out).2.2 0 p188 q188;cases e188;have qi188:(0 < t184.length)=True:=eq_true (by omega);(try rw [show ((0:Int)).toNat=0 from rfl] at hx188_0);(try rw [show 0 * 7=0 from rfl] at hx188_0);(try rw [Addr.add_zero'] at hx188_0);(try rw [show ((0:Int)).toNat=0 from rfl] at hx188_1);(try rw [show 0 * 7=0 from rfl] at hx188_1);(try rw [Addr.add_zero'] at hx188_1);(try rw [show ((0:Int)).toNat=0 from rfl] at hx188_2);(try rw [show 0 * 7=0 from rfl] at hx188_2);(try rw [Addr.add_zero'] at hx188_2);(try rw [show ((0:Int)).toNat=0 from rfl] at hx188_3);(try rw [show 0 * 7=0 from rfl] at hx188_3);(try rw [Addr.add_zero'] at hx188_3);(try rw [show ((0:Int)).toNat=0 from rfl] at hx188_4);(try rw [show 0 * 7=0 from rfl] at hx188_4);(try rw [Addr.add_zero'] at hx188_4);(try rw [show ((0:Int)).toNat=0 from rfl] at hx188_5);(try rw [show 0 * 7=0 from rfl] at hx188_5);(try rw [Addr.add_zero'] at hx188_5);(try rw [show ((0:Int)).toNat=0 from rfl] at hx188_6);(try rw [show 0 * 7=0 from rfl] at hx188_6);(try rw [Addr.add_zero'] at hx188_6);replace p188:=eq_true p188;replace q188:=eq_true q188)|(go_at_call 16;(with_reducible refine (code_Same.calls k _ _ t184 _ _ t184 t189 _ ?side1 ?side2 ?side3 ?side4 A9.out).mono ?_);(case side1=>repeat (first|exact (Kd.R_reads' HO187.out).2.2|(with_reducible refine Kd.C_alloc ?_ _)|(with_reducible refine Kd.C_drewN ?_ _)|(with_reducible refine Kd.C_drew ?_)));(case side2=>exact (Kd.R_reads' HO187.out).2.1);(case side3=>repeat (first|exact (Kd.R_reads' HO187.out).2.2|(with_reducible refine Kd.C_alloc ?_ _)|(with_reducible refine Kd.C_drewN ?_ _)|(with_reducible refine Kd.C_drew ?_)));(case side4=>exact (Kd.R_reads' HO187.out).2.1);rintro e w' ⟨rfl,⟨nd,rfl⟩⟩))
       go_ret
       exact ⟨by first|(with_reducible rfl)|(simp only [isEmpty_bne,Bool.not_not] <;> rfl)|rfl|(simp [*,errW_none,errW_some] <;> rfl),by repeat (first|(with_reducible first|exact HB.out|apply zl1|apply zl2|apply zl3)|exact HB.out)⟩
      ·rw [if_neg c8] at H
       exact absurd H (by simp)
     ·rw [if_neg c7] at H
      exact absurd H (by simp)
    ·rw [if_neg c6] at H
     exact absurd H (by simp)
   ·rw [if_neg c5] at H
    exact absurd H (by simp)
  ·rw [if_neg c4] at H
   exact absurd H (by simp)
 ·rw [if_neg c3] at H
  exact absurd H (by simp)

end Go.Proofs.YtljfichnlgfikaaDoor.PAll
