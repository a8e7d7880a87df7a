/- Printed walks of the functions that the laws reach: each function, what it computes, and that it does. No conditions. -/
import Derived.Test.YtljfichnlgfikaaDoorPAllx0
namespace Go.Proofs.YtljfichnlgfikaaDoor.PAll
open Go.RowKit Go.Proofs.YtljfichnlgfikaaDoor.XW Go.Proofs.YtljfichnlgfikaaDoor.XLib Go.Proofs.YtljfichnlgfikaaDoorW.PrintWords Go.Proofs.YtljfichnlgfikaaDoorW.PrintLast Go.Proofs.YtljfichnlgfikaaDoorW.PrintMore
attribute [local go_sem] max2_int min2_int max_two min_two max_three min_three max_four min_four   -- for this text's walks alone
set_option linter.unusedVariables false
set_option linter.unusedSimpArgs false

/-! ### factotumref01_size: function 45 -/
def factotumref01_size.f (a0:Int):Option (Int):=some (mn (mx a0 1) 8)
set_option maxHeartbeats 8000000 in
set_option maxRecDepth 100000 in
theorem factotumref01_size.calls (a0:Int) (r:Int) (w:World) (h:factotumref01_size.f a0=some r) :
  Calls Tryd.prog 45 #[.int .i64 a0] w fun e w'=>e=.returned (.int .i64 r)∧Below w.heap.size w w':=by
 have HB:=Aside0.mk (Below.refl w.heap.size w)
 have H:(some (mn (mx a0 1) 8))=some r:=h
 clear h
 obtain ⟨ji2,hji2⟩:∃ j_:Int,(mx a0 1)=j_:=⟨_,rfl⟩
 replace H:(some (mn (ji2) 8))=some r:=by first|(rw [hji2] at H;exact H)|(simp only [hji2] at H ⊢;exact H)
 (try (have hji2l:1≤ji2:=by (rw [← hji2];unfold mx;(repeat' split) <;> omega)))
 (try (have hji2m:0≤ji2:=by omega))
 have hji2_:(if a0 < 1 then 1 else a0)=ji2:=hji2
 obtain ⟨ji3,hji3⟩:∃ j_:Int,(mn (ji2) 8)=j_:=⟨_,rfl⟩
 replace H:(some ji3)=some r:=by first|(rw [hji3] at H;exact H)|(simp only [hji3] at H ⊢;exact H)
 have hji3_:(if 8 < (ji2) then 8 else (ji2))=ji3:=hji3
 obtain rfl:=Option.some.inj H
 go_enter Tryd.func45,Tryd.ntmps45
 go_wp2
 go_ret
 exact ⟨by first|(with_reducible rfl)|(simp only [isEmpty_bne,Bool.not_not] <;> with_reducible rfl)|(simp [errW_none,errW_some] <;> with_reducible rfl)|(simp only [isEmpty_bne,Bool.not_not] <;> rfl)|rfl|(simp [errW_none,errW_some] <;> rfl)|(simp only [← hji2,← hji3];first|rfl|(simp [errW_none,errW_some] <;> rfl))|(simp [*,errW_none,errW_some] <;> rfl),by repeat (first|(with_reducible first|exact HB.out|apply zl1|apply zl2|apply zl3)|exact HB.out)⟩

/-! ### factotumref01_Num: function 35 -/
def factotumref01_Num.l0:Nat→Int→List Int→Int→Option (ByteArray)
 | 0,_,_,_=>none
 | k + 1,x0,x5,x6=>if x6 ≥ 0 then (if 0≤x6 then (if x6 < (x5.length:Int) then (factotumref01_Num.l0 k (IntKind.u64.wrap (Int.tdiv x0 256)) (x5.set (x6:Int).toNat ((Int.tmod x0 256) % 256)) (wrap64 (x6 - 1))) else (none)) else (none)) else (some (strOfNums x5))
def factotumref01_Num.f (k:Nat) (a0:Int) (a1:Int):Option (ByteArray):=(factotumref01_size.f a1).bind fun t201=>(if 0≤t201 then (if (t201:Int).toNat≤281474976710656 then (factotumref01_Num.l0 k a0 (List.replicate (t201:Int).toNat 0) (wrap64 (t201 - 1))) else (none)) else (none))
theorem factotumref01_Num.mono_l:∀ k,(∀ y0 y1 y2,LeO (factotumref01_Num.l0 k y0 y1 y2) (factotumref01_Num.l0 (k + 1) y0 y1 y2))
 | 0=>fun _ _ _ r h=>by simp [factotumref01_Num.l0] at h
 | k + 1=>by
  have ih0:=factotumref01_Num.mono_l k
  ·intro y0 y1 y2
   unfold factotumref01_Num.l0
   repeat' first
   | (with_reducible exact ih0 _ _ _)
   | (with_reducible exact LeO.refl _)
   | (with_reducible exact LeO.none _)
   | (with_reducible refine LeO.ite ?_ ?_)
   | (with_reducible refine LeO.bind ?_ (fun _=>?_))
   | exact ih0 _ _ _
   | exact LeO.none _
   | refine LeO.ite ?_ ?_
   | refine LeO.bind ?_ (fun _=>?_)
theorem factotumref01_Num.mono:∀ a0 a1 k,LeO (factotumref01_Num.f k a0 a1) (factotumref01_Num.f (k + 1) a0 a1):=by
 intro a0 a1 k
 have ih0:=factotumref01_Num.mono_l k
 unfold factotumref01_Num.f
 repeat' first
   | (with_reducible exact ih0 _ _ _)
   | (with_reducible exact LeO.refl _)
   | (with_reducible exact LeO.none _)
   | (with_reducible refine LeO.ite ?_ ?_)
   | (with_reducible refine LeO.bind ?_ (fun _=>?_))
   | exact ih0 _ _ _
   | exact LeO.none _
   | refine LeO.ite ?_ ?_
   | refine LeO.bind ?_ (fun _=>?_)
set_option maxHeartbeats 8000000 in
set_option maxRecDepth 100000 in
theorem factotumref01_Num.calls (k:Nat) (a0:Int) (a1:Int) (r:ByteArray) (w:World) (h:factotumref01_Num.f k a0 a1=some r) :
  Calls Tryd.prog 35 #[.int .u64 a0,.int .i64 a1] w fun e w'=>e=.returned (.string r)∧Below w.heap.size w w':=by
 have HB:=Aside0.mk (Below.refl w.heap.size w)
 have H:((factotumref01_size.f a1).bind fun t201=>(if 0≤t201 then (if (t201:Int).toNat≤281474976710656 then (factotumref01_Num.l0 k a0 (List.replicate (t201:Int).toNat 0) (wrap64 (t201 - 1))) else (none)) else (none)))=some r:=h
 clear h
 replace H:=Option.bind_eq_some_iff.mp H
 obtain ⟨t201,A30,H⟩:=H
 replace H:(if 0≤t201 then (if (t201:Int).toNat≤281474976710656 then (factotumref01_Num.l0 k a0 (List.replicate (t201:Int).toNat 0) (wrap64 (t201 - 1))) else (none)) else (none))=some r:=H
 have A3:=Aside0.mk A30
 clear A30
 by_cases c4:0≤t201
 ·rw [if_pos c4] at H
  have c4b0:=eq_true c4
  have c4b1:decide (0≤t201)=true:=decide_eq_true c4
  clear c4
  by_cases c5:(t201:Int).toNat≤281474976710656
  ·rw [if_pos c5] at H
   have c5b0:=eq_true c5
   have c5b1:decide ((t201:Int).toNat≤281474976710656)=true:=decide_eq_true c5
   clear c5
   obtain ⟨y202,hy202⟩:∃ y_:List Int,y_=(List.replicate (t201:Int).toNat 0):=⟨_,rfl⟩
   replace H:(factotumref01_Num.l0 k a0 y202 (wrap64 (t201 - 1)))=some r:=by first|(rw [hy202];with_reducible exact H)|(have H2_:=(Option.bind_some _ _).symm.trans H;rw [hy202];with_reducible exact H2_)|(have H2_:=(Option.bind_some _ _).symm.trans H;with_reducible exact H2_)|with_reducible exact H|(rw [hy202];exact H)|exact H
   have Ny202:=Aside0.mk hy202
   clear hy202
   have H':=Aside0.mk H
   clear H
   go_enter Tryd.func35,Tryd.ntmps35
   go_wp2_with (first|((with_reducible refine gate_callee (f:=45) rfl ?_);refine goesL_ (some 8) rfl rfl Tryd.func45 (by kernel_rfl) rfl #[.int .i64 a1] rfl (by (try simp only [List.map_toArray,List.map_cons,List.map_nil]);first|done|rfl|(simp only [List.length_drop,List.length_take];rfl)|(simp (disch:=omega) only [u64_in];rfl)) ?_;(with_reducible refine (factotumref01_size.calls a1 t201 _ A3.out).mono ?_);rintro e w6 ⟨rfl,hb⟩;refine ⟨_,rfl,?_⟩;replace HB:=Aside0.mk (below_step (by repeat (first|(with_reducible first|exact HB.out|apply zl1|apply zl2|apply zl3)|exact HB.out)) hb);(try clear hb))|((with_reducible refine gate_dst (N:=10) rfl ?_);refine Kd.R_make (Kd.int .u8) _ 5 rfl (N:=10) rfl 43 _ _ rfl t201 rfl rfl Tryd.underlying43 (.int .u8 0) 1 info5 rfl (by decide) (by omega) 0 (ok:=fun _=>True) (okp:=fun _=>True) rfl (fun _ hk=>hk) trivial (of_decide_eq_true (by first|(with_reducible assumption)|assumption)) (Nat.le_trans (Nat.mul_le_mul_right _ (of_decide_eq_true (by first|(with_reducible assumption)|assumption):t201.toNat≤281474976710656)) (by omega)) (Below.refl _ _) (Nat.le_refl _) ?_;intro v203 w7 ho8 hb hg_ hnew_;clear hg_ hnew_;(first|rw [← Ny202.out] at ho8|(simp only [Int.reduceToNat] at ho8;rw [← Ny202.out] at ho8));have HO204:=Aside0.mk (Kd.R_lower ho8 (below_size (by repeat (first|(with_reducible first|exact HB.out|apply zl1|apply zl2|apply zl3)|exact HB.out))));replace HB:=Aside0.mk (below_step (by repeat (first|(with_reducible first|exact HB.out|apply zl1|apply zl2|apply zl3)|exact HB.out)) hb);clear hb ho8))
   go_loopg [0,6] k (fun kq v0 v6 w'=>∃ (x0_1:Int) (x5_1:List Int) (x6_1:Int),v0=.int .u64 x0_1∧v6=.int .i64 x6_1∧Aside0 (factotumref01_Num.l0 kq x0_1 x5_1 x6_1=some r)∧Aside0 (kq≤k)∧Aside0 (Kd.R (Kd.int .u8) 5 w' w.heap.size (fun _=>True) v203 x5_1)∧Aside0 (Below w.heap.size w w'))
   case atStart=>exact ⟨(a0),(y202),(wrap64 (t201 - 1)),(by first|(with_reducible rfl)|(simp;done)|(simp [*];done)|rfl|(simp only [not_isEmpty_bne])),(by first|(with_reducible rfl)|(simp;done)|(simp [*];done)|rfl|(simp only [not_isEmpty_bne])),H',⟨Nat.le_refl _⟩,⟨by (with_reducible repeat (first|apply zk1|apply zk2|apply zk3));exact HO204.out⟩,⟨by repeat (first|(with_reducible first|exact HB.out|apply zl1|apply zl2|apply zl3)|exact HB.out)⟩⟩
   case round =>
    clear H'
    try clear p2
    try clear c3
    try clear c4
    try clear c4b0
    try clear c4b1
    try clear c5
    try clear c5b0
    try clear c5b1
    try clear p6
    obtain ⟨x0_1,x5_1,x6_1,rfl,rfl,HA,HK1,HO_5,HB⟩:=hrel
    cases gk with
    | zero=>exact absurd HA.out (by simp [factotumref01_Num.l0])
    | succ k1 =>
     have H:=HA.out
     clear HA
     simp only [factotumref01_Num.l0] at H
     by_cases c9:x6_1 ≥ 0
     ·rw [if_pos c9] at H
      have c9b0:decide (0≤x6_1)=true:=decide_eq_true c9
      clear c9
      by_cases c10:0≤x6_1
      ·rw [if_pos c10] at H
       have c10b0:decide (0≤x6_1)=true:=decide_eq_true c10
       clear c10
       by_cases c11:x6_1 < (x5_1.length:Int)
       ·rw [if_pos c11] at H
        have c11b0:decide (x6_1 < (x5_1.length:Int))=true:=decide_eq_true c11
        clear c11
        obtain ⟨y205,hy205⟩:∃ y_:List Int,y_=(x5_1.set (x6_1:Int).toNat ((Int.tmod x0_1 256) % 256)):=⟨_,rfl⟩
        replace H:(factotumref01_Num.l0 k1 (IntKind.u64.wrap (Int.tdiv x0_1 256)) y205 (wrap64 (x6_1 - 1)))=some r:=by first|(rw [hy205];with_reducible exact H)|(have H2_:=(Option.bind_some _ _).symm.trans H;rw [hy205];with_reducible exact H2_)|(have H2_:=(Option.bind_some _ _).symm.trans H;with_reducible exact H2_)|with_reducible exact H|(rw [hy205];exact H)|exact H
        have Ny205:=Aside0.mk hy205
        clear hy205
        have H':=Aside0.mk H
        clear H
        have p12:0≤(x6_1:Int):=of_decide_eq_true (by first|(with_reducible assumption)|assumption)
        have q12:(x6_1:Int) < ((x5_1.length:Int):Int):=of_decide_eq_true (by first|(with_reducible assumption)|assumption)
        obtain ⟨go12,co12,eo12,gb12,gl12,cl12,HG12⟩:=Kd.R_form HO_5.out (by omega)
        (first|cases eo12|(injection eo12 with ea_ en_ ec_;(first|subst ea_|(injection ea_ with ea_;subst ea_));subst ec_;clear en_))
        have GB12:=Aside0.mk gb12
        have GG12:=Aside0.mk HG12
        clear gb12 gl12 HG12
        obtain ⟨hx12_0,hf12_0⟩:=Kd.R_celln 0 HO_5.out (x6_1:Int) p12 q12
        replace p12:=eq_true p12
        replace q12:=eq_true q12
        have HP13:=Kd.R_putg HO_5.out (x6_1:Int) ((Int.tmod x0_1 256) % 256)
        go_wp2_with (first|((with_reducible refine gate_store (t:=5) (p:=22) rfl ?_);refine store_event (t:=5) (p:=22) (v:=?vo_w14) (w1:=(wr.setCell ⟨go12,(x6_1:Int).toNat,none⟩ (.int .u8 ((Int.tmod x0_1 256) % 256)))) ?hg ?ho ?hn ?hr ?_;(case ho=>rfl);(case hg=>rfl);(case hn=>rfl);(case hr=>first|(go_simp;done)|(go_simp;rfl));intro w14 hw;have hg:wr.grownBy w14 (some go12):=(by rw [hw];exact HP13.2);have hp_:Kd.R (Kd.int .u8) 5 w14 w.heap.size (fun _=>True) (.slice (some ⟨go12,0,none⟩) x5_1.length co12) y205:=(by rw [hw,Ny205.out];exact HP13.1);clear HP13;replace HO_5:=Aside0.mk (hp_);replace HB:=Aside0.mk ((by rw [hw];exact below_set (HB.out) GB12.out:Below w.heap.size w w14));clear hg hw hp_))
        go_roundg k1
        case measure=>have:=HK1.out;omega
        case rel=>exact ⟨(IntKind.u64.wrap (Int.tdiv x0_1 256)),(y205),(wrap64 (x6_1 - 1)),(by first|(with_reducible rfl)|(simp;done)|(simp [*];done)|rfl|(simp only [not_isEmpty_bne])),(by first|(with_reducible rfl)|(simp;done)|(simp [*];done)|rfl|(simp only [not_isEmpty_bne])),H',⟨by have:=HK1.out;omega⟩,⟨by (with_reducible repeat (first|apply zk1|apply zk2|apply zk3));exact HO_5.out⟩,⟨by repeat (first|(with_reducible first|exact HB.out|apply zl1|apply zl2|apply zl3)|exact HB.out)⟩⟩
       ·rw [if_neg c11] at H
        exact absurd H (by simp)
      ·rw [if_neg c10] at H
       exact absurd H (by simp)
     ·rw [if_neg c9] at H
      have c9b0:decide (0≤x6_1)=false:=decide_eq_false c9
      clear c9
      obtain rfl:=Option.some.inj H
      have hcv15:=own_string (P:=Tryd.prog) Tryd.underlying43 Tryd.underlying5 Tryd.underlying9 (Kd.own_of_R HO_5.out)
      go_wp2
      go_ret
      exact ⟨by first|(with_reducible rfl)|(simp only [isEmpty_bne,Bool.not_not] <;> rfl)|rfl|(simp [*,errW_none,errW_some] <;> rfl),by repeat (first|(with_reducible first|exact HB.out|apply zl1|apply zl2|apply zl3)|exact HB.out)⟩
  ·rw [if_neg c5] at H
   exact absurd H (by simp)
 ·rw [if_neg c4] at H
  exact absurd H (by simp)

end Go.Proofs.YtljfichnlgfikaaDoor.PAll
