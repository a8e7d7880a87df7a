/- Printed walks of the functions that the laws reach: each function, what it computes, and that it does. No conditions. -/
import Derived.Test.YtnlfppfdfdopiaaDoorPAllx0
import Derived.Test.YtnlfppfdfdopiaaDoorPAllx1
import Derived.Test.YtnlfppfdfdopiaaDoorPAllx2
namespace Go.Proofs.YtnlfppfdfdopiaaDoor.PAll
open Go.RowKit Go.Proofs.YtnlfppfdfdopiaaDoor.XW Go.Proofs.YtnlfppfdfdopiaaDoor.XLib Go.Proofs.YtnlfppfdfdopiaaDoorW.PrintWords Go.Proofs.YtnlfppfdfdopiaaDoorW.PrintLast Go.Proofs.YtnlfppfdfdopiaaDoorW.PrintMore
attribute [local go_sem] max2_int min2_int max_two min_two max_three min_three max_four min_four   -- for this text's walks alone
set_option linter.unusedVariables false
set_option linter.unusedSimpArgs false

/-! ### keys_Write: function 60 -/
/-- may a value not be? -/
def oddV (v:S30):Bool:=if v.f0=1 then v.f2.toList != [] else if v.f0=2 then v.f1 != 0 else true
theorem odd_val (v:S30):keys_odd.f v.f0 v.f1 v.f2=some (oddV v):=by
 unfold keys_odd.f oddV;(repeat' split) <;> first|rfl|omega
theorem rd39_at (l:List S30) (i:Nat) (h:i < l.length):rd_T30 l (i:Int)=l[i]:=by
 unfold rd_T30;rw [Int.toNat_natCast,List.getD_eq_getElem?_getD,List.getElem?_eq_getElem h];rfl
theorem index_odd (l:List S30) (hl:l.length≤140737488355328):∀ m i:Nat,i + m=l.length →
  ∃ r,slices_IndexFunc_at_keys_odd.l0 (m + 1) l (l.length:Int) (i:Int)=some r∧decide (r ≥ 0)=(l.drop i).any oddV:=by
 intro m
 induction m with
 | zero =>
  intro i hi
  refine ⟨-1,?_,?_⟩
  ·simp only [slices_IndexFunc_at_keys_odd.l0];rw [if_neg (by omega)]
  ·rw [List.drop_eq_nil_of_le (by omega)];rfl
 | succ m ih =>
  intro i hi
  have hlt:i < l.length:=by omega
  simp only [slices_IndexFunc_at_keys_odd.l0]
  rw [if_pos (by omega),if_pos (by omega),if_pos (by omega),rd39_at l i hlt,odd_val,Option.bind_some]
  rw [List.drop_eq_getElem_cons hlt,List.any_cons]
  cases ho:oddV l[i] with
  | true=>exact ⟨(i:Int),if_pos rfl,by simp⟩
  | false =>
   rw [if_neg (by decide),IntWalk.wrap64_in _ ⟨by omega,by omega⟩]
   obtain ⟨r,h1,h2⟩:=ih (i + 1) (by omega)
   exact ⟨r,by rw [← h1];rfl,by rw [h2];simp⟩
theorem contains_odd (l:List S30) (hl:l.length≤140737488355328):slices_ContainsFunc_at_keys_odd.f (l.length + 1) l=some (l.any oddV):=by
 obtain ⟨r,h1,h2⟩:=index_odd l hl l.length 0 (by omega)
 unfold slices_ContainsFunc_at_keys_odd.f slices_IndexFunc_at_keys_odd.f
 rw [show (0:Int)=((0:Nat):Int) from rfl,h1,Option.bind_some]
 exact congrArg some (h2.trans (by simp))
/-- a number's eight bytes -/
def be8 (n:Int):List UInt8:=[56,48,40,32,24,16,8,0].map fun i:Int=>UInt8.ofNat ((shr .u64 n i) % 256).toNat
theorem byte_back (x:Int):((UInt8.ofNat (x % 256).toNat).toNat:Int)=x % 256:=by
 have:=Int.emod_nonneg x (show (256:Int) ≠ 0 by decide)
 have:=Int.emod_lt_of_pos x (show (0:Int) < 256 by decide)
 rw [UInt8.toNat_ofNat'];omega
theorem bi_be8 (n:Int):bi (be8 n)=[(shr .u64 n 56) % 256,(shr .u64 n 48) % 256,(shr .u64 n 40) % 256,(shr .u64 n 32) % 256,(shr .u64 n 24) % 256,(shr .u64 n 16) % 256,(shr .u64 n 8) % 256,(shr .u64 n 0) % 256]:=by
 simp only [bi,be8,List.map_cons,List.map_nil,byte_back]
theorem pack8_go (x:List Int) (n:Int) (j:Nat) (k:Nat) (hj:j < 8) (hx:x.length < 140737488355328) :
  pack_Num.l0 (k + 1) x n (j:Int)=pack_Num.l0 k (x ++ [(shr .u64 n (8 * (j:Int))) % 256]) n ((j:Int) - 1):=by
 simp only [pack_Num.l0]
 rw [if_pos (by omega),IntWalk.wrap64_in (8 * (j:Int)) ⟨by omega,by omega⟩,if_pos (by omega),if_pos hx,IntWalk.wrap64_in ((j:Int) - 1) ⟨by omega,by omega⟩]
theorem pack8 (x:List Int) (n:Int) (hx:x.length + 8≤140737488355328):pack_Num.f 9 x n 8=some (x ++ bi (be8 n)):=by
 have h0:pack_Num.f 9 x n 8=pack_Num.l0 9 x n ((7:Nat):Int):=by
  unfold pack_Num.f pack_wide.f;rw [Option.bind_some];rw [show wrap64 (mn (mx 8 1) 8 - 1)=((7:Nat):Int) from by unfold mn mx;simp [wrap64]]
 have step:∀ (y:List Int) (j k:Nat),j < 8→y.length < 140737488355328→pack_Num.l0 (k + 1) y n (j:Int)=pack_Num.l0 k (y ++ [(shr .u64 n (8 * (j:Int))) % 256]) n ((j:Int) - 1):=fun y j k h1 h2=>pack8_go y n j k h1 h2
 rw [h0,step _ 7 8 (by omega) (by omega)]
 rw [show ((7:Nat):Int) - 1=((6:Nat):Int) from rfl,step _ 6 7 (by omega) (by simp;omega)]
 rw [show ((6:Nat):Int) - 1=((5:Nat):Int) from rfl,step _ 5 6 (by omega) (by simp;omega)]
 rw [show ((5:Nat):Int) - 1=((4:Nat):Int) from rfl,step _ 4 5 (by omega) (by simp;omega)]
 rw [show ((4:Nat):Int) - 1=((3:Nat):Int) from rfl,step _ 3 4 (by omega) (by simp;omega)]
 rw [show ((3:Nat):Int) - 1=((2:Nat):Int) from rfl,step _ 2 3 (by omega) (by simp;omega)]
 rw [show ((2:Nat):Int) - 1=((1:Nat):Int) from rfl,step _ 1 2 (by omega) (by simp;omega)]
 rw [show ((1:Nat):Int) - 1=((0:Nat):Int) from rfl,step _ 0 1 (by omega) (by simp;omega)]
 simp only [pack_Num.l0]
 rw [if_neg (by decide),bi_be8]
 simp only [List.append_assoc,List.cons_append,List.nil_append]
 rfl
/-- a value's bytes -/
def encV (v:S30):List UInt8:=if v.f0=1 then 1 :: be8 (Go.bits .xor .u64 (IntKind.u64.wrap v.f1) 9223372036854775808) else 2 :: (esc v.f2.data.toList ++ [0,1])
def encL (l:List S30):List UInt8:=l.flatMap encV
def keys_Write.f (l0:List S30):Option (ByteArray × Int) :=
 if l0.length≤140737488355328 then (if l0.any oddV=true then some (⟨#[]⟩,6) else if (encL l0).length≤70368744177000 then some (⟨(encL l0).toArray⟩,0) else none) else none

theorem next_j (n j:Nat) (h:j < n) (hn:n≤140737488355328):wrap64 ((j:Int) + 1)=((j + 1:Nat):Int):=(IntWalk.wrap64_in _ ⟨by omega,by omega⟩).trans (by omega)
theorem loop_less (n j:Nat) (h:j < n) (hn:n≤140737488355328):n - (intOf (.int .i64 (wrap64 ((j:Int) + 1)))).toNat < n - (intOf (.int .i64 (j:Int))).toNat:=by
 rw [next_j n j h hn];simp only [intOf,Int.toNat_natCast];omega
theorem strOf_bi (l:List UInt8):strOfNums (bi l)=⟨l.toArray⟩:=by
 unfold strOfNums bi;rw [List.map_map];congr 2
 conv=>rhs;rw [← List.map_id l]
 apply List.map_congr_left;intro c _;simp
theorem take_enc (l:List S30) (j:Nat) (h:j < l.length):encL (l.take (j + 1))=encL (l.take j) ++ encV l[j]:=by
 unfold encL;rw [List.take_add_one,List.getElem?_eq_getElem h,Option.toList_some,List.flatMap_append];simp
theorem encL_take_le (l:List S30) (j:Nat):(encL (l.take j)).length≤(encL l).length:=by
 conv=>rhs;rw [← List.take_append_drop j l]
 unfold encL;rw [List.flatMap_append,List.length_append];omega
set_option maxHeartbeats 8000000 in
set_option maxRecDepth 100000 in
theorem keys_Write.calls (A0:Option Addr) (c0:Nat) (l0:List (S30)) (r1:ByteArray) (r2:Int) (w:World) (hr0:Kd.C k30 w A0 l0.length l0) (hc0:l0.length≤c0) (h:keys_Write.f l0=some (r1,r2)) :
  Calls Tryd.prog 60 #[.slice A0 l0.length c0] w fun e w'=>e=.returned (.tuple #[.string r1,.int .i64 r2])∧Below w.heap.size w w':=by
 have huV:=Tryd.underlying30
 have HR0:=Aside0.mk hr0
 have HC0:=Aside0.mk hc0
 have HB:=Aside0.mk (Below.refl w.heap.size w)
 unfold keys_Write.f at h
 split at h
 case isFalse=>cases h
 rename_i hl
 have hany:=Aside0.mk (contains_odd l0 hl)
 have HL:=Aside0.mk hl
 clear hr0 hc0
 go_enter Tryd.func60,Tryd.ntmps60
 by_cases ho:l0.any oddV=true
 ·rw [if_pos ho] at h
  simp only [Option.some.injEq,Prod.mk.injEq] at h
  obtain ⟨rfl,rfl⟩:=h
  rw [ho] at hany
  clear hl ho
  go_wp2_with (go_at_call 64;refine (slices_ContainsFunc_at_keys_odd.calls (l0.length + 1) A0 c0 l0 true _ (Kd.C_below HR0.out (by repeat (first|(with_reducible first|exact HB.out|apply zl1|apply zl2|apply zl3)|exact HB.out))) HC0.out hany.out).mono ?_;rintro e w1 ⟨rfl,hb⟩)
  go_ret2
  exact ⟨rfl,by repeat (first|exact hb|apply zl1|apply zl2|apply zl3)⟩
 ·rw [if_neg ho] at h
  replace ho:l0.any oddV=false:=by simpa using ho
  rw [ho] at hany
  split at h
  case isFalse=>cases h
  rename_i hT
  simp only [Option.some.injEq,Prod.mk.injEq] at h
  obtain ⟨rfl,rfl⟩:=h
  have HT:=Aside0.mk hT
  clear hl ho hT
  go_wp2_with (go_at_call 64;refine (slices_ContainsFunc_at_keys_odd.calls (l0.length + 1) A0 c0 l0 false _ (Kd.C_below HR0.out (by repeat (first|(with_reducible first|exact HB.out|apply zl1|apply zl2|apply zl3)|exact HB.out))) HC0.out hany.out).mono ?_;rintro e w1 ⟨rfl,hb⟩)
  go_loopw [4,11] (fun b x wx=>∃ j:Nat,j≤l0.length∧x=.int .i64 (j:Int)∧Aside0 (Kd.R (Kd.int .u8) 5 wx w.heap.size (fun _=>True) b (bi (encL (l0.take j))))∧Aside0 (Below w.heap.size w wx)) (fun _ x _=>l0.length - (intOf x).toNat)
  case atStart=>exact ⟨0,Nat.zero_le _,rfl,⟨Kd.R_nil _ _ _ _ _⟩,⟨by repeat (first|exact hb|apply zl1|apply zl2|apply zl3)⟩⟩
  case round =>
   obtain ⟨j,hj,rfl,HO,HBr⟩:=hrel
   by_cases hlt:j < l0.length
   ·have p0:0≤(j:Int):=by omega
    have q0:(j:Int) < (l0.length:Int):=by omega
    obtain ⟨ad,e1,hx0,hx1,hx2⟩:=at_T30 HR0.out (j:Int) p0 q0
    cases e1
    rw [rd39_at l0 j hlt] at hx0 hx1 hx2
    obtain ⟨v,hv⟩:∃ v,l0[j]=v:=⟨_,rfl⟩
    rw [hv] at hx0 hx1 hx2
    have HN:=Aside0.mk (take_enc l0 j hlt)
    rw [hv] at HN
    clear hv
    rw [Int.toNat_natCast] at hx0 hx1 hx2
    replace hx0:=(HBr.out.cell (World.block_lt_of_cell? w _ hx0)).trans hx0
    replace hx1:=(HBr.out.cell (World.block_lt_of_cell? w _ hx1)).trans hx1
    replace hx2:=(HBr.out.cell (World.block_lt_of_cell? w _ hx2)).trans hx2
    by_cases h1:v.f0=1
    ·have h1b:(v.f0 == 1)=true:=beq_iff_eq.mpr h1
     go_wp2_with fail
     generalize hW0:wr.alloc (Obj.cells #[Value.int IntKind.i64 1,Value.int IntKind.i64 v.f1,Value.string v.f2] 30)=W0
     have hc1:W0.cell? ⟨wr.heap.size,1,none⟩=some (.int .i64 v.f1):=by rw [← hW0];simp [go_sem]
     have HOw:Aside0 (Kd.R (Kd.int .u8) 5 W0 w.heap.size (fun k=>k ≠ wr.heap.size) u4 (bi (encL (l0.take j)))):=⟨by
      rw [← hW0];exact Kd.R_alloc (Kd.R_of_own (Kd.own_of_R HO.out) (fun k hk=>Nat.ne_of_lt (Kd.R_lt HO.out k hk))) _⟩
     have HBw:Aside0 (Below w.heap.size w W0):=⟨by rw [← hW0];exact below_alloc HBr.out _⟩
     have hlt0:wr.heap.size < W0.heap.size:=by rw [← hW0];simp
     have hbr:=HBr.out.size
     have hlen:(bi (encL (l0.take j))).length≤70368744177000:=by rw [bi_len];exact Nat.le_trans (encL_take_le l0 j) HT.out
     have HP:=Aside0.mk (pack8 (bi (encL (l0.take j)) ++ bi [1]) (Go.bits .xor .u64 (IntKind.u64.wrap v.f1) 9223372036854775808) (by rw [List.length_append,bi_len [1]];simp;omega))
     clear hW0 hx0 hx1 hx2
     go_region_held3 (fun w'=>w'.cell? ⟨wr.heap.size,1,none⟩=some (.int .i64 v.f1)) (first|exact hc1|exact (World.cell?_alloc_lt _ _ _ hlt0).trans hc1|exact hcA|exact (World.cell?_alloc_lt _ _ _ hltA).trans hcA|exact hcB) (first|(refine R_lies_step w.heap.size (by rfl) _ _ 64 5 (by rfl) Tryd.underlying64 info5 u4 _ [1] _ 1 1 (0,0) 5 (by rfl) (by rfl) (fun k=>k ≠ wr.heap.size) (fun k hk=>by (try simp at hk);omega) (by (with_reducible repeat (first|apply zk1|apply zk2|apply zk3));exact HOw.out) (heap_alloc_new _ _) rfl (by decide) ?_ ?_ ?_;(simp;omega);omega;intro vA wA HOA hbA hgA;have hltA:wr.heap.size < wA.heap.size:=Nat.lt_of_lt_of_le hlt0 (Nat.le_trans (by simp) hbA.size);have hcA:=(hgA.cell_far ⟨wr.heap.size,1,none⟩ (Nat.lt_of_lt_of_le hlt0 (by simp)) (fun hk=>HOw.out.1 _ hk.symm rfl)).trans ((World.cell?_alloc_lt _ _ _ hlt0).trans hc1);have HBA:=Aside0.mk (Below.trans (by repeat (first|(with_reducible first|exact HBw.out|apply zl1|apply zl2|apply zl3)|exact HBw.out)) hbA))|(go_at_call 35;refine (pack_Num.calls 9 (fun k=>k ≠ wr.heap.size) vA _ _ 8 _ w _ (by repeat (first|(with_reducible first|exact HBA.out|apply zl1|apply zl2|apply zl3)|exact HBA.out)) (by (with_reducible repeat (first|apply zk1|apply zk2|apply zk3));exact HOA) HP.out).mono ?_;rintro e wB ⟨vB,rfl,HOB,HBB,HKB⟩;have hcB:=(World.cell?_of_block (a:=(⟨wr.heap.size,1,none⟩:Addr)) (HKB.2 _ hltA (fun h=>h rfl))).trans hcA))
     go_wp2
     have hl:=HL.out
     have hw1:wrap64 ((j:Int) + 1)=((j + 1:Nat):Int):=next_j _ _ hlt hl
     go_roundw
     case rel=>exact ⟨j + 1,hlt,by rw [hw1],⟨Kd.R_mono (by rw [HN.out,bi_app];rw [show bi (encV v)=bi [1] ++ bi (be8 (Go.bits .xor .u64 (IntKind.u64.wrap v.f1) 9223372036854775808)) from by unfold encV;rw [if_pos h1];rfl,← List.append_assoc];exact HOB) (fun _ _=>trivial)⟩,⟨HBB⟩⟩
     case measure=>exact loop_less _ _ hlt hl
    ·have h1b:(v.f0 == 1)=false:=beq_eq_false_iff_ne.mpr h1
     go_wp2_with fail
     generalize hW0:wr.alloc (Obj.cells #[Value.int IntKind.i64 v.f0,Value.int IntKind.i64 v.f1,Value.string v.f2] 30)=W0
     have hc1:W0.cell? ⟨wr.heap.size,2,none⟩=some (.string v.f2):=by rw [← hW0];simp [go_sem]
     have HOw:Aside0 (Kd.R (Kd.int .u8) 5 W0 w.heap.size (fun k=>k ≠ wr.heap.size) u4 (bi (encL (l0.take j)))):=⟨by
      rw [← hW0];exact Kd.R_alloc (Kd.R_of_own (Kd.own_of_R HO.out) (fun k hk=>Nat.ne_of_lt (Kd.R_lt HO.out k hk))) _⟩
     have HBw:Aside0 (Below w.heap.size w W0):=⟨by rw [← hW0];exact below_alloc HBr.out _⟩
     have hlt0:wr.heap.size < W0.heap.size:=by rw [← hW0];simp
     have hbr:=HBr.out.size
     have hlen:(bi (encL (l0.take j))).length≤70368744177000:=by rw [bi_len];exact Nat.le_trans (encL_take_le l0 j) HT.out
     have hle:(encL (l0.take j)).length + (encV v).length≤70368744177000:=by rw [← List.length_append,← HN.out];exact Nat.le_trans (encL_take_le l0 (j + 1)) HT.out
     have hev:encV v=[2] ++ esc v.f2.data.toList ++ [0,1]:=by unfold encV;rw [if_neg h1];simp
     have hel:(encV v).length=v.f2.data.toList.length + Lib.countByte v.f2.data.toList 0 + 3:=by rw [hev];simp [esc_length]
     have hfs:v.f2.data.toList.length=v.f2.size:=(Lib.size_eq _).symm
     have HP:Aside0 (strings_ReplaceAll.f v.f2 ⟨#[0]⟩ ⟨#[0,255]⟩=some ⟨(esc v.f2.data.toList).toArray⟩):=⟨by unfold strings_ReplaceAll.f;rw [if_pos ⟨rfl,rfl,by omega⟩]⟩
     have HEV:=Aside0.mk hev
     have hsz:(⟨(esc v.f2.data.toList).toArray⟩:ByteArray).size=v.f2.size + Lib.countByte v.f2.data.toList 0:=by rw [Lib.size_eq];simp [esc_length,hfs]
     clear hev
     have hWr:=HBw.out.size
     clear hW0 hx0 hx1 hx2
     go_region_held3 (fun w'=>w'.cell? ⟨wr.heap.size,2,none⟩=some (.string v.f2)) (first|exact hc1|exact (World.cell?_alloc_lt _ _ _ hlt0).trans hc1|exact hcA|exact (World.cell?_alloc_lt _ _ _ hltA).trans hcA|exact hcB|exact hcC) (first|(refine R_lies_step w.heap.size (by rfl) _ _ 64 5 (by rfl) Tryd.underlying64 info5 u4 _ [2] _ 1 1 (0,0) 5 (by rfl) (by rfl) (fun k=>k ≠ wr.heap.size) (fun k hk=>by (try simp at hk);omega) (by (with_reducible repeat (first|apply zk1|apply zk2|apply zk3));exact HOw.out) (heap_alloc_new _ _) rfl (by decide) ?_ ?_ ?_;(simp;omega);omega;intro vA wA HOA hbA hgA;have hltA:wr.heap.size < wA.heap.size:=Nat.lt_of_lt_of_le hlt0 (Nat.le_trans (by simp) hbA.size);have hcA:=(hgA.cell_far ⟨wr.heap.size,2,none⟩ (Nat.lt_of_lt_of_le hlt0 (by simp)) (fun hk=>HOw.out.1 _ hk.symm rfl)).trans ((World.cell?_alloc_lt _ _ _ hlt0).trans hc1);have HBA:=Aside0.mk (Below.trans (by repeat (first|(with_reducible first|exact HBw.out|apply zl1|apply zl2|apply zl3)|exact HBw.out)) hbA))|(go_at_call 66;refine (strings_ReplaceAll.calls v.f2 ⟨#[0]⟩ ⟨#[0,255]⟩ _ _ HP.out).mono ?_;rintro e wB ⟨rfl,hbB⟩;have hltB:wr.heap.size < wB.heap.size:=Nat.lt_of_lt_of_le hltA hbB.size;have hcB:=(hbB.cell (World.block_lt_of_cell? _ _ hcA)).trans hcA;have HOB:=Aside0.mk (Kd.R_below (by (with_reducible repeat (first|apply zk1|apply zk2|apply zk3));exact HOA) hbB);have HBB:=Aside0.mk (below_step (by repeat (first|(with_reducible first|exact HBA.out|apply zl1|apply zl2|apply zl3)|exact HBA.out)) hbB))|(refine R_str_step w.heap.size (by rfl) _ _ 64 9 5 (by rfl) Tryd.underlying64 Tryd.underlying9 info5 vA _ ⟨(esc v.f2.data.toList).toArray⟩ (by rfl) (by rfl) (fun k=>k ≠ wr.heap.size) HOB.out (Nat.le_trans HBA.out.size hbB.size) (by rw [List.length_append,hsz,bi_len [2]];simp;omega) ?_;intro vC wC HOC hbC hgC;have hcC:=(hgC.cell_far ⟨wr.heap.size,2,none⟩ hltB (fun hk=>HOB.out.1 _ hk.symm rfl)).trans hcB))
     have hCb:=hbC.size
     have hBs:=HBB.out.size
     have HBC:=Aside0.mk (HBB.out.trans hbC)
     have hq:=bi_len (encL (l0.take j))
     have hlC:(bi (encL (l0.take j)) ++ bi [2] ++ bytesOf ⟨(esc v.f2.data.toList).toArray⟩).length≤70368744177664:=by rw [List.length_append,List.length_append,bytesOf_length,hsz,bi_len [2]];simp;omega
     go_wp2_with (first|((with_reducible refine gate_builtin (b:=.append) (xs:=#[.tmp 33,.tmp 34]) rfl ?_);at_builtin;refine R_lies_plain w.heap.size (by rfl) (.tmp 33) (.tmp 34) 64 5 (by rfl) Tryd.underlying64 info5 vC _ [0,1] _ 2 2 (0,0) 5 (by rfl) (by rfl) (fun _=>True) (fun _ _=>trivial) (by (with_reducible repeat (first|apply zk1|apply zk2|apply zk3));exact HOC) (heap_alloc_new _ _) rfl (by decide) ?_ ?_ ?_;(simp;omega);omega;intro vD wD HOD hbD hgD))
     have hl:=HL.out
     have hw1:wrap64 ((j:Int) + 1)=((j + 1:Nat):Int):=next_j _ _ hlt hl
     go_roundw
     case rel=>exact ⟨j + 1,hlt,by rw [hw1],⟨by rw [HN.out,bi_app,HEV.out];rw [bi_app,bi_app,← List.append_assoc,← List.append_assoc];exact HOD⟩,⟨Below.trans (by repeat (first|exact HBC.out|apply zl1|apply zl2|apply zl3)) hbD⟩⟩
     case measure=>exact loop_less _ _ hlt hl
   ·have hje:j=l0.length:=by omega
    subst hje
    have hcv:=own_string (P:=Tryd.prog) Tryd.underlying64 Tryd.underlying5 Tryd.underlying9 (Kd.own_of_R HO.out)
    go_wp2
    go_ret2
    exact ⟨by rw [← strOf_bi];(try rw [List.take_length]);rfl,HBr.out⟩

/-! ### effects_odd: function 48 -/
def effects_odd.f (a0_0:Int) (a0_1:Int) (a0_2:ByteArray):Option (Bool):=(keys_Write.f (([(⟨a0_0,a0_1,a0_2⟩:S30)]:List (S30)))).bind fun bt113=>(if bt113.2=0 then (some (decide ((a0_2.size:Int) > 10))) else (some true))
set_option maxHeartbeats 8000000 in
set_option maxRecDepth 100000 in
theorem effects_odd.calls (a0_0:Int) (a0_1:Int) (a0_2:ByteArray) (r:Bool) (w:World) (h:effects_odd.f a0_0 a0_1 a0_2=some r) :
  Calls Tryd.prog 48 #[.agg #[.int .i64 a0_0,.int .i64 a0_1,.string a0_2]] w fun e w'=>e=.returned (.bool r)∧Below w.heap.size w w':=by
 have hu30:=Tryd.underlying30
 have HB:=Aside0.mk (Below.refl w.heap.size w)
 have H:((keys_Write.f (([(⟨a0_0,a0_1,a0_2⟩:S30)]:List (S30)))).bind fun bt113=>(if bt113.2=0 then (some (decide ((a0_2.size:Int) > 10))) else (some true)))=some r:=h
 clear h
 obtain ⟨y110,hy110⟩:∃ y_:List (S30),y_=(([(⟨a0_0,a0_1,a0_2⟩:S30)]:List (S30))):=⟨_,rfl⟩
 replace H:((keys_Write.f y110).bind fun bt113=>(if bt113.2=0 then (some (decide ((a0_2.size:Int) > 10))) else (some true)))=some r:=by first|(rw [hy110];with_reducible exact H)|(have H2_:=(Option.bind_some _ _).symm.trans H;rw [hy110];with_reducible exact H2_)|(have H2_:=(Option.bind_some _ _).symm.trans H;with_reducible exact H2_)|with_reducible exact H|(rw [hy110];exact H)|exact H
 have Ny110:=Aside0.mk hy110
 clear hy110
 replace H:=Option.bind_eq_some_iff.mp H
 obtain ⟨⟨t113,t114⟩,A20,H⟩:=H
 replace H:(if t114=0 then (some (decide ((a0_2.size:Int) > 10))) else (some true))=some r:=H
 have A2:=Aside0.mk A20
 clear A20
 by_cases c3:t114=0
 ·rw [if_pos c3] at H
  have c3b0:(t114 == 0)=true:=beq_iff_eq.mpr c3
  have c3b1:(t114 != 0)=false:=bne_eq_false_iff_eq.mpr c3
  clear c3
  obtain rfl:=Option.some.inj H
  go_enter Tryd.func48,Tryd.ntmps48
  go_wp2_with (first|((with_reducible refine gate_dst (N:=1) rfl ?_);(try (refine gate_guard (by rfl) ?_;dsimp only));refine box_event ?hg (N:=1) ?hd (cs:=#[.int .i64 a0_0,.int .i64 a0_1,.string a0_2]) (t:=30) ?hr ?_;(case hd=>rfl);(case hg=>rfl);(case hr=>first|(go_simp;done)|(go_simp;rfl));intro gb109 hg w4 hbox hb;have BK109:=Aside0.mk (hbox);have GW109:=Aside0.mk ((by rw [hg];exact (below_size (by repeat (first|(with_reducible first|exact HB.out|apply zl1|apply zl2|apply zl3)|exact HB.out))):w.heap.size≤gb109));have GE109:=Aside0.mk ((by rw [hg];exact (below_size (by repeat (first|(with_reducible first|exact HB.out|apply zl1|apply zl2|apply zl3)|exact HB.out))):w.heap.size≤gb109));replace HB:=Aside0.mk (below_step (by repeat (first|(with_reducible first|exact HB.out|apply zl1|apply zl2|apply zl3)|exact HB.out)) hb);clear hb hbox hg;obtain ⟨hcz5_0,hcz5_1,hcz5_2⟩:=zc3 BK109.out;obtain ⟨hfz5_0,hfz5_1,hfz5_2⟩:=zf3 BK109.out)|((with_reducible refine gate_dst (N:=7) rfl ?_);(try (refine gate_guard (by rfl) ?_;dsimp only));refine Kd.R_lit k30 _ 30 ?hg (N:=7) ?hd (xs:=([(⟨a0_0,a0_1,a0_2⟩:S30)]:List (S30))) (inner:=[.int .i64 a0_0,.int .i64 a0_1,.string a0_2]) (ok:=fun _=>True) (okp:=fun _=>True) ?hr ?hp (fun _ hk=>hk) trivial (Below.refl _ _) (Nat.le_refl _) (by simp) ?_;(case hd=>rfl);(case hg=>rfl);(case hr=>first|(go_simp;done)|(go_simp;rfl));(case hp=>exact (Reps.c3 (show Kd.M k30 _ _ _ (⟨a0_0,a0_1,a0_2⟩:S30) [.int .i64 a0_0,.int .i64 a0_1,.string a0_2] from (k30_mkM _ _ _ (⟨a0_0,a0_1,a0_2⟩:S30) )) (Reps.none _ _)));intro v111 w6 ho7 hb hg_ hnew_;clear hg_ hnew_;(first|rw [← Ny110.out] at ho7|(simp only [Int.reduceToNat] at ho7;rw [← Ny110.out] at ho7));have HO112:=Aside0.mk (Kd.R_lower (Kd.R_newB ho7 (g:=gb109) (o:=.cells #[.int .i64 a0_0,.int .i64 a0_1,.string a0_2] 30 (0,0)) (by (with_reducible repeat (first|apply zb1|apply zb2|apply zb3));exact BK109.out)) (below_size (by repeat (first|(with_reducible first|exact HB.out|apply zl1|apply zl2|apply zl3|refine below_set ?_ GE109.out)|exact HB.out))));replace BK109:=Aside0.mk (blk_below (g:=gb109) (o:=.cells #[.int .i64 a0_0,.int .i64 a0_1,.string a0_2] 30 (0,0)) (by (with_reducible repeat (first|apply zb1|apply zb2|apply zb3));exact BK109.out) hb);replace HB:=Aside0.mk (below_step (by repeat (first|(with_reducible first|exact HB.out|apply zl1|apply zl2|apply zl3|refine below_set ?_ GE109.out)|exact HB.out)) hb);clear hb ho7;obtain ⟨Ao8,co8,eo8⟩:=Kd.R_slice HO112.out;subst eo8)|((with_reducible refine gate_callee (f:=60) rfl ?_);refine goesL_ (some 8) rfl rfl Tryd.func60 (by kernel_rfl) rfl #[.slice Ao8 y110.length co8] rfl (by (try simp only [List.map_toArray,List.map_cons,List.map_nil]);first|done|rfl|(simp only [List.length_drop,List.length_take];rfl)|(simp (disch:=omega) only [u64_in];rfl)) ?_;(with_reducible refine (keys_Write.calls _ _ y110 t113 t114 _ ?side1 ?side2 A2.out).mono ?_);(case side1=>repeat (first|exact (Kd.R_reads' HO112.out).2.2|(with_reducible refine Kd.C_alloc ?_ _)|(with_reducible refine Kd.C_drewN ?_ _)|(with_reducible refine Kd.C_drew ?_)));(case side2=>exact (Kd.R_reads' HO112.out).2.1);rintro e w9 ⟨rfl,hb⟩;refine ⟨_,rfl,?_⟩;replace HO112:=Aside0.mk (Kd.R_below (by (with_reducible repeat (first|apply zk1|apply zk2|apply zk3));exact HO112.out) hb);replace BK109:=Aside0.mk (blk_below (g:=gb109) (o:=.cells #[.int .i64 a0_0,.int .i64 a0_1,.string a0_2] 30 (0,0)) (by (with_reducible repeat (first|apply zb1|apply zb2|apply zb3));exact BK109.out) hb);replace HB:=Aside0.mk (below_step (by repeat (first|(with_reducible first|exact HB.out|apply zl1|apply zl2|apply zl3|refine below_set ?_ GE109.out)|exact HB.out)) hb);(try clear hb);obtain ⟨hcz10_0,hcz10_1,hcz10_2⟩:=zc3 BK109.out;obtain ⟨hfz10_0,hfz10_1,hfz10_2⟩:=zf3 BK109.out))
  go_ret
  exact ⟨by first|(with_reducible rfl)|(simp only [isEmpty_bne,Bool.not_not] <;> rfl)|rfl|(simp [*,errW_none,errW_some] <;> rfl),by repeat (first|(with_reducible first|exact HB.out|apply zl1|apply zl2|apply zl3|refine below_set ?_ GE109.out)|exact HB.out)⟩
 ·rw [if_neg c3] at H
  have c3b0:(t114 == 0)=false:=beq_eq_false_iff_ne.mpr c3
  have c3b1:(t114 != 0)=true:=bne_iff_ne.mpr c3
  obtain rfl:=Option.some.inj H
  go_enter Tryd.func48,Tryd.ntmps48
  go_wp2_with (first|((with_reducible refine gate_dst (N:=1) rfl ?_);(try (refine gate_guard (by rfl) ?_;dsimp only));refine box_event ?hg (N:=1) ?hd (cs:=#[.int .i64 a0_0,.int .i64 a0_1,.string a0_2]) (t:=30) ?hr ?_;(case hd=>rfl);(case hg=>rfl);(case hr=>first|(go_simp;done)|(go_simp;rfl));intro gb109 hg w11 hbox hb;have BK109:=Aside0.mk (hbox);have GW109:=Aside0.mk ((by rw [hg];exact (below_size (by repeat (first|(with_reducible first|exact HB.out|apply zl1|apply zl2|apply zl3)|exact HB.out))):w.heap.size≤gb109));have GE109:=Aside0.mk ((by rw [hg];exact (below_size (by repeat (first|(with_reducible first|exact HB.out|apply zl1|apply zl2|apply zl3)|exact HB.out))):w.heap.size≤gb109));replace HB:=Aside0.mk (below_step (by repeat (first|(with_reducible first|exact HB.out|apply zl1|apply zl2|apply zl3)|exact HB.out)) hb);clear hb hbox hg;obtain ⟨hcz12_0,hcz12_1,hcz12_2⟩:=zc3 BK109.out;obtain ⟨hfz12_0,hfz12_1,hfz12_2⟩:=zf3 BK109.out)|((with_reducible refine gate_dst (N:=7) rfl ?_);(try (refine gate_guard (by rfl) ?_;dsimp only));refine Kd.R_lit k30 _ 30 ?hg (N:=7) ?hd (xs:=([(⟨a0_0,a0_1,a0_2⟩:S30)]:List (S30))) (inner:=[.int .i64 a0_0,.int .i64 a0_1,.string a0_2]) (ok:=fun _=>True) (okp:=fun _=>True) ?hr ?hp (fun _ hk=>hk) trivial (Below.refl _ _) (Nat.le_refl _) (by simp) ?_;(case hd=>rfl);(case hg=>rfl);(case hr=>first|(go_simp;done)|(go_simp;rfl));(case hp=>exact (Reps.c3 (show Kd.M k30 _ _ _ (⟨a0_0,a0_1,a0_2⟩:S30) [.int .i64 a0_0,.int .i64 a0_1,.string a0_2] from (k30_mkM _ _ _ (⟨a0_0,a0_1,a0_2⟩:S30) )) (Reps.none _ _)));intro v111 w13 ho14 hb hg_ hnew_;clear hg_ hnew_;(first|rw [← Ny110.out] at ho14|(simp only [Int.reduceToNat] at ho14;rw [← Ny110.out] at ho14));have HO112:=Aside0.mk (Kd.R_lower (Kd.R_newB ho14 (g:=gb109) (o:=.cells #[.int .i64 a0_0,.int .i64 a0_1,.string a0_2] 30 (0,0)) (by (with_reducible repeat (first|apply zb1|apply zb2|apply zb3));exact BK109.out)) (below_size (by repeat (first|(with_reducible first|exact HB.out|apply zl1|apply zl2|apply zl3|refine below_set ?_ GE109.out)|exact HB.out))));replace BK109:=Aside0.mk (blk_below (g:=gb109) (o:=.cells #[.int .i64 a0_0,.int .i64 a0_1,.string a0_2] 30 (0,0)) (by (with_reducible repeat (first|apply zb1|apply zb2|apply zb3));exact BK109.out) hb);replace HB:=Aside0.mk (below_step (by repeat (first|(with_reducible first|exact HB.out|apply zl1|apply zl2|apply zl3|refine below_set ?_ GE109.out)|exact HB.out)) hb);clear hb ho14;obtain ⟨Ao15,co15,eo15⟩:=Kd.R_slice HO112.out;subst eo15)|((with_reducible refine gate_callee (f:=60) rfl ?_);refine goesL_ (some 8) rfl rfl Tryd.func60 (by kernel_rfl) rfl #[.slice Ao15 y110.length co15] rfl (by (try simp only [List.map_toArray,List.map_cons,List.map_nil]);first|done|rfl|(simp only [List.length_drop,List.length_take];rfl)|(simp (disch:=omega) only [u64_in];rfl)) ?_;(with_reducible refine (keys_Write.calls _ _ y110 t113 t114 _ ?side1 ?side2 A2.out).mono ?_);(case side1=>repeat (first|exact (Kd.R_reads' HO112.out).2.2|(with_reducible refine Kd.C_alloc ?_ _)|(with_reducible refine Kd.C_drewN ?_ _)|(with_reducible refine Kd.C_drew ?_)));(case side2=>exact (Kd.R_reads' HO112.out).2.1);rintro e w16 ⟨rfl,hb⟩;refine ⟨_,rfl,?_⟩;replace HO112:=Aside0.mk (Kd.R_below (by (with_reducible repeat (first|apply zk1|apply zk2|apply zk3));exact HO112.out) hb);replace BK109:=Aside0.mk (blk_below (g:=gb109) (o:=.cells #[.int .i64 a0_0,.int .i64 a0_1,.string a0_2] 30 (0,0)) (by (with_reducible repeat (first|apply zb1|apply zb2|apply zb3));exact BK109.out) hb);replace HB:=Aside0.mk (below_step (by repeat (first|(with_reducible first|exact HB.out|apply zl1|apply zl2|apply zl3|refine below_set ?_ GE109.out)|exact HB.out)) hb);(try clear hb)))
  go_ret
  exact ⟨by first|(with_reducible rfl)|(simp only [isEmpty_bne,Bool.not_not] <;> rfl)|rfl|(simp [*,errW_none,errW_some] <;> rfl),by repeat (first|(with_reducible first|exact HB.out|apply zl1|apply zl2|apply zl3|refine below_set ?_ GE109.out)|exact HB.out)⟩

end Go.Proofs.YtnlfppfdfdopiaaDoor.PAll
