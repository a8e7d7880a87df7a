/- Printed walks of the functions that the laws reach: each function, what it computes, and that it does. No conditions. -/
import Derived.Test.YtokjbncjapndgaaPAllx0
namespace Go.Proofs.Ytokjbncjapndgaa.PAll
open Go.RowKit Go.Proofs.Ytokjbncjapndgaa.XW Go.Proofs.Ytokjbncjapndgaa.XLib Go.Proofs.YtokjbncjapndgaaW.PrintWords Go.Proofs.YtokjbncjapndgaaW.PrintLast Go.Proofs.YtokjbncjapndgaaW.PrintMore
attribute [local go_sem] max2_int min2_int max_two min_two max_three min_three max_four min_four   -- for this text's walks alone
set_option linter.unusedVariables false
set_option linter.unusedSimpArgs false

/-! ### node_rising: function 43 -/
def node_rising.l0:Nat→List ByteArray→List ByteArray→Int→Int→Option (Bool)
 | 0,_,_,_,_=>none
 | k + 1,x0,x5,x6,x7=>if x7 < x6 then (if 0≤x7 then (if x7 < (x5.length:Int) then (if (rdOf ByteArray.empty x5 x7).toList=([]:List UInt8) then (some false) else (if ((rdOf ByteArray.empty x5 x7).size:Int) > 32 then (some false) else (if x7 > 0 then (if 0≤(wrap64 (x7 - 1)) then (if (wrap64 (x7 - 1)) < (x0.length:Int) then (if ((Op.bytesLess ((rdOf ByteArray.empty x0 (wrap64 (x7 - 1))).toList) ((rdOf ByteArray.empty x5 x7).toList))=true) then (node_rising.l0 k x0 x5 x6 (wrap64 (x7 + 1))) else (some false)) else (none)) else (none)) else (node_rising.l0 k x0 x5 x6 (wrap64 (x7 + 1)))))) else (none)) else (none)) else (some true)
def node_rising.f (k:Nat) (l0:List ByteArray):Option (Bool):=node_rising.l0 k l0 l0 (l0.length:Int) 0
theorem node_rising.mono_l:∀ k,(∀ y0 y1 y2 y3,LeO (node_rising.l0 k y0 y1 y2 y3) (node_rising.l0 (k + 1) y0 y1 y2 y3))
 | 0=>fun _ _ _ _ r h=>by simp [node_rising.l0] at h
 | k + 1=>by
  have ih0:=node_rising.mono_l k
  ·intro y0 y1 y2 y3
   unfold node_rising.l0
   repeat' first
   | (with_reducible exact ih0 _ _ _ _)
   | (with_reducible exact LeO.refl _)
   | (with_reducible exact LeO.none _)
   | (with_reducible refine LeO.ite ?_ ?_)
   | (with_reducible refine LeO.bind ?_ (fun _=>?_))
   | exact ih0 _ _ _ _
   | exact LeO.none _
   | refine LeO.ite ?_ ?_
   | refine LeO.bind ?_ (fun _=>?_)
theorem node_rising.mono:∀ a0 k,LeO (node_rising.f k a0) (node_rising.f (k + 1) a0):=by
 intro a0 k
 have ih0:=node_rising.mono_l k
 unfold node_rising.f
 repeat' first
   | (with_reducible exact ih0 _ _ _ _)
   | (with_reducible exact LeO.refl _)
   | (with_reducible exact LeO.none _)
   | (with_reducible refine LeO.ite ?_ ?_)
   | (with_reducible refine LeO.bind ?_ (fun _=>?_))
   | exact ih0 _ _ _ _
   | exact LeO.none _
   | refine LeO.ite ?_ ?_
   | refine LeO.bind ?_ (fun _=>?_)
set_option maxHeartbeats 8000000 in
set_option maxRecDepth 100000 in
theorem node_rising.calls (k:Nat) (A0:Option Addr) (c0:Nat) (l0:List ByteArray) (r:Bool) (w:World) (hr0:Kd.C Kd.string w A0 l0.length l0) (hc0:l0.length≤c0) (h:node_rising.f k l0=some r) :
  Calls Try.prog 43 #[.slice A0 l0.length c0] w fun e w'=>e=.returned (.bool r)∧Drawn0 w w':=by
 have HR0:=Aside0.mk hr0
 have HC0:=Aside0.mk hc0
 clear hr0 hc0
 have H:(node_rising.l0 k l0 l0 (l0.length:Int) 0)=some r:=h
 clear h
 have H':=Aside0.mk H
 clear H
 go_enter Try.func43,Try.ntmps43
 go_wp2
 go_loopg [7] k (fun kq v7 w'=>∃ (x7_1:Int),v7=.int .i64 x7_1∧Aside0 (node_rising.l0 kq l0 l0 (l0.length:Int) x7_1=some r)∧Aside0 (kq≤k)∧Drawn0 w w')
 case atStart=>exact ⟨(0),(by first|(with_reducible rfl)|(simp;done)|(simp [*];done)|rfl|(simp only [not_isEmpty_bne])),H',⟨Nat.le_refl _⟩,by repeat (first|exact Drawn0.refl _|apply Drawn0.step)⟩
 case round =>
  clear H'
  obtain ⟨x7_1,rfl,HA,HK1,⟨m1,rfl⟩⟩:=hrel
  cases gk with
  | zero=>exact absurd HA.out (by simp [node_rising.l0])
  | succ k1 =>
   have H:=HA.out
   clear HA
   simp only [node_rising.l0] at H
   by_cases c2:x7_1 < (l0.length:Int)
   ·rw [if_pos c2] at H
    have c2b0:decide (x7_1 < (l0.length:Int))=true:=decide_eq_true c2
    clear c2
    by_cases c3:0≤x7_1
    ·rw [if_pos c3] at H
     have c3b0:decide (0≤x7_1)=true:=decide_eq_true c3
     clear c3
     by_cases c4:x7_1 < (l0.length:Int)
     ·rw [if_pos c4] at H
      have c4b0:decide (x7_1 < (l0.length:Int))=true:=decide_eq_true c4
      clear c4
      by_cases c5:(rdOf ByteArray.empty l0 x7_1).toList=([]:List UInt8)
      ·rw [if_pos c5] at H
       have c5b0:((rdOf ByteArray.empty l0 x7_1).toList == ([]:List UInt8))=true:=beq_iff_eq.mpr c5
       have c5b1:((rdOf ByteArray.empty l0 x7_1).toList != ([]:List UInt8))=false:=bne_eq_false_iff_eq.mpr c5
       clear c5
       obtain rfl:=Option.some.inj H
       have p141:0≤(x7_1:Int):=of_decide_eq_true (by first|(with_reducible assumption)|assumption)
       have q141:x7_1 < (l0.length:Int):=of_decide_eq_true (by first|(with_reducible assumption)|assumption)
       obtain ⟨ad141,e141,hx141_0⟩:=Kd.at_string HR0.out x7_1 p141 q141
       cases e141
       replace p141:=eq_true p141
       replace q141:=eq_true q141
       go_wp2
       go_ret
       exact ⟨by first|(with_reducible rfl)|(simp;done)|(simp [*];done)|rfl|(simp only [not_isEmpty_bne]),by repeat (first|exact Drawn0.refl _|apply Drawn0.step)⟩
      ·rw [if_neg c5] at H
       have c5b0:((rdOf ByteArray.empty l0 x7_1).toList == ([]:List UInt8))=false:=beq_eq_false_iff_ne.mpr c5
       have c5b1:((rdOf ByteArray.empty l0 x7_1).toList != ([]:List UInt8))=true:=bne_iff_ne.mpr c5
       by_cases c6:((rdOf ByteArray.empty l0 x7_1).size:Int) > 32
       ·rw [if_pos c6] at H
        have c6b0:decide (32 < ((rdOf ByteArray.empty l0 x7_1).size:Int))=true:=decide_eq_true c6
        have c6b1:decide (32 < (rdOf ByteArray.empty l0 x7_1).size)=true:=decide_eq_true (by omega)
        clear c6
        obtain rfl:=Option.some.inj H
        have p141:0≤(x7_1:Int):=of_decide_eq_true (by first|(with_reducible assumption)|assumption)
        have q141:x7_1 < (l0.length:Int):=of_decide_eq_true (by first|(with_reducible assumption)|assumption)
        obtain ⟨ad141,e141,hx141_0⟩:=Kd.at_string HR0.out x7_1 p141 q141
        cases e141
        replace p141:=eq_true p141
        replace q141:=eq_true q141
        go_wp2
        go_ret
        exact ⟨by first|(with_reducible rfl)|(simp;done)|(simp [*];done)|rfl|(simp only [not_isEmpty_bne]),by repeat (first|exact Drawn0.refl _|apply Drawn0.step)⟩
       ·rw [if_neg c6] at H
        have c6b0:decide (32 < ((rdOf ByteArray.empty l0 x7_1).size:Int))=false:=decide_eq_false c6
        have c6b1:decide (32 < (rdOf ByteArray.empty l0 x7_1).size)=false:=decide_eq_false (by omega)
        clear c6
        by_cases c7:x7_1 > 0
        ·rw [if_pos c7] at H
         have c7b0:decide (0 < x7_1)=true:=decide_eq_true c7
         clear c7
         obtain ⟨ji8,hji8⟩:∃ j_:Int,(wrap64 (x7_1 - 1))=j_:=⟨_,rfl⟩
         replace H:(if 0≤(ji8) then (if (ji8) < (l0.length:Int) then (if ((Op.bytesLess ((rdOf ByteArray.empty l0 (ji8)).toList) ((rdOf ByteArray.empty l0 x7_1).toList))=true) then (node_rising.l0 k1 l0 l0 (l0.length:Int) (wrap64 (x7_1 + 1))) else (some false)) else (none)) else (none))=some r:=by first|(rw [hji8] at H;exact H)|(simp only [hji8] at H ⊢;exact H)
         have hji8w:(IntKind.i64.wrap (x7_1 - 1))=ji8:=(i64_w _).trans hji8
         by_cases c9:0≤(ji8)
         ·rw [if_pos c9] at H
          have c9b0:decide (0≤(ji8))=true:=decide_eq_true c9
          clear c9
          by_cases c10:(ji8) < (l0.length:Int)
          ·rw [if_pos c10] at H
           have c10b0:decide ((ji8) < (l0.length:Int))=true:=decide_eq_true c10
           clear c10
           by_cases c11:((Op.bytesLess ((rdOf ByteArray.empty l0 (ji8)).toList) ((rdOf ByteArray.empty l0 x7_1).toList))=true)
           ·rw [if_pos c11] at H
            have c11b0:(Op.bytesLess ((rdOf ByteArray.empty l0 (ji8)).toList) ((rdOf ByteArray.empty l0 x7_1).toList))=true:=c11
            clear c11
            have H':=Aside0.mk H
            clear H
            have p141:0≤(x7_1:Int):=of_decide_eq_true (by first|(with_reducible assumption)|assumption)
            have q141:x7_1 < (l0.length:Int):=of_decide_eq_true (by first|(with_reducible assumption)|assumption)
            obtain ⟨ad141,e141,hx141_0⟩:=Kd.at_string HR0.out x7_1 p141 q141
            cases e141
            replace p141:=eq_true p141
            replace q141:=eq_true q141
            have p142:0≤((ji8):Int):=of_decide_eq_true (by first|(with_reducible assumption)|assumption)
            have q142:(ji8) < (l0.length:Int):=of_decide_eq_true (by first|(with_reducible assumption)|assumption)
            obtain ⟨ad142,e142,hx142_0⟩:=Kd.at_string HR0.out (ji8) p142 q142
            obtain rfl:ad141=ad142:=(by injection e142)
            replace p142:=eq_true p142
            replace q142:=eq_true q142
            go_wp2
            go_roundg k1
            case measure=>have:=HK1.out;omega
            case rel=>exact ⟨(wrap64 (x7_1 + 1)),(by first|(with_reducible rfl)|(simp;done)|(simp [*];done)|rfl|(simp only [not_isEmpty_bne])),H',⟨by have:=HK1.out;omega⟩,by repeat (first|exact Drawn0.refl _|apply Drawn0.step)⟩
           ·rw [if_neg c11] at H
            have c11b0:(Op.bytesLess ((rdOf ByteArray.empty l0 (ji8)).toList) ((rdOf ByteArray.empty l0 x7_1).toList))=false:=by simpa using c11
            clear c11
            obtain rfl:=Option.some.inj H
            have p141:0≤(x7_1:Int):=of_decide_eq_true (by first|(with_reducible assumption)|assumption)
            have q141:x7_1 < (l0.length:Int):=of_decide_eq_true (by first|(with_reducible assumption)|assumption)
            obtain ⟨ad141,e141,hx141_0⟩:=Kd.at_string HR0.out x7_1 p141 q141
            cases e141
            replace p141:=eq_true p141
            replace q141:=eq_true q141
            have p142:0≤((ji8):Int):=of_decide_eq_true (by first|(with_reducible assumption)|assumption)
            have q142:(ji8) < (l0.length:Int):=of_decide_eq_true (by first|(with_reducible assumption)|assumption)
            obtain ⟨ad142,e142,hx142_0⟩:=Kd.at_string HR0.out (ji8) p142 q142
            obtain rfl:ad141=ad142:=(by injection e142)
            replace p142:=eq_true p142
            replace q142:=eq_true q142
            go_wp2
            go_ret
            exact ⟨by first|rfl|(simp;done)|(simp only [← hji8] <;> (first|rfl|simp))|(simp [*];done),by repeat (first|exact Drawn0.refl _|apply Drawn0.step)⟩
          ·rw [if_neg c10] at H
           exact absurd H (by simp)
         ·rw [if_neg c9] at H
          exact absurd H (by simp)
        ·rw [if_neg c7] at H
         have c7b0:decide (0 < x7_1)=false:=decide_eq_false c7
         clear c7
         have H':=Aside0.mk H
         clear H
         have p141:0≤(x7_1:Int):=of_decide_eq_true (by first|(with_reducible assumption)|assumption)
         have q141:x7_1 < (l0.length:Int):=of_decide_eq_true (by first|(with_reducible assumption)|assumption)
         obtain ⟨ad141,e141,hx141_0⟩:=Kd.at_string HR0.out x7_1 p141 q141
         cases e141
         replace p141:=eq_true p141
         replace q141:=eq_true q141
         go_wp2
         go_roundg k1
         case measure=>have:=HK1.out;omega
         case rel=>exact ⟨(wrap64 (x7_1 + 1)),(by first|(with_reducible rfl)|(simp;done)|(simp [*];done)|rfl|(simp only [not_isEmpty_bne])),H',⟨by have:=HK1.out;omega⟩,by repeat (first|exact Drawn0.refl _|apply Drawn0.step)⟩
     ·rw [if_neg c4] at H
      exact absurd H (by simp)
    ·rw [if_neg c3] at H
     exact absurd H (by simp)
   ·rw [if_neg c2] at H
    have c2b0:decide (x7_1 < (l0.length:Int))=false:=decide_eq_false c2
    clear c2
    obtain rfl:=Option.some.inj H
    go_wp2
    go_ret
    exact ⟨by first|(with_reducible rfl)|(simp;done)|(simp [*];done)|rfl|(simp only [not_isEmpty_bne]),by repeat (first|exact Drawn0.refl _|apply Drawn0.step)⟩

/-! ### node_right_1: function 42 -/
def node_right_1.f (a0_0:ByteArray) (a0_1:ByteArray):Option (Bool):=some (decide ((a0_1.size:Int) > 40))
set_option maxHeartbeats 8000000 in
set_option maxRecDepth 100000 in
theorem node_right_1.calls (a0_0:ByteArray) (a0_1:ByteArray) (r:Bool) (w:World) (h:node_right_1.f a0_0 a0_1=some r) :
  Calls Try.prog 42 #[.agg #[.string a0_0,.string a0_1]] w fun e w'=>e=.returned (.bool r)∧Below w.heap.size w w':=by
 have hu43:=Try.underlying43
 have HB:=Aside0.mk (Below.refl w.heap.size w)
 have H:(some (decide ((a0_1.size:Int) > 40)))=some r:=h
 clear h
 obtain rfl:=Option.some.inj H
 go_enter Try.func42,Try.ntmps42
 go_wp2_with (first|((with_reducible refine gate_dst (N:=1) rfl ?_);refine box_event ?hg (N:=1) ?hd (cs:=#[.string a0_0,.string a0_1]) (t:=43) ?hr ?_;(case hd=>rfl);(case hg=>rfl);(case hr=>first|(go_simp;done)|(go_simp;rfl));intro gb143 hg w2 hbox hb;have BK143:=Aside0.mk (hbox);have GW143:=Aside0.mk ((by rw [hg];exact (below_size (by repeat (first|(with_reducible first|exact HB.out|apply zl1|apply zl2|apply zl3)|exact HB.out))):w.heap.size≤gb143));have GE143:=Aside0.mk ((by rw [hg];exact (below_size (by repeat (first|(with_reducible first|exact HB.out|apply zl1|apply zl2|apply zl3)|exact HB.out))):w.heap.size≤gb143));replace HB:=Aside0.mk (below_step (by repeat (first|(with_reducible first|exact HB.out|apply zl1|apply zl2|apply zl3)|exact HB.out)) hb);clear hb hbox hg;have hcz3_0:w2.cell? ⟨gb143,0,none⟩=some (.string a0_0):=(blk_cell BK143.out 0).trans rfl;have hcz3_1:w2.cell? ⟨gb143,1,none⟩=some (.string a0_1):=(blk_cell BK143.out 1).trans rfl;have hfz3_0:=blk_frozen BK143.out 0;have hfz3_1:=blk_frozen BK143.out 1))
 go_ret
 exact ⟨by first|(with_reducible rfl)|(simp only [isEmpty_bne,Bool.not_not] <;> rfl)|rfl|(simp [*,errW_none,errW_some] <;> rfl),by repeat (first|(with_reducible first|exact HB.out|apply zl1|apply zl2|apply zl3|refine below_set ?_ GE143.out)|exact HB.out)⟩

end Go.Proofs.Ytokjbncjapndgaa.PAll
