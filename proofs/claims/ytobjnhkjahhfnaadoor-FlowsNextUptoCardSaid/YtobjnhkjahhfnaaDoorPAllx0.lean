/- Printed walks of the functions that the laws reach: each function, what it computes, and that it does. No conditions. -/
import Derived.Test.YtobjnhkjahhfnaaDoorProg
import Derived.Below
import Derived.Deep.Draws
import Derived.Deep.AppendLies
import Derived.Maps.AppendAt
import Derived.OwnWalk
import Derived.Laws.BytesArg
import Derived.Laws.MakeOwn
import Derived.Laws.OwnMore
import Derived.Deep.OwnRows
import Derived.Tactics
import Derived.Lib.ConvBytes
import Derived.Laws.Slices
import Derived.WalkKit
import Derived.KernelRfl
import Derived.RowKit3
import Derived.Deep.LoopGhost
import Derived.Deep.QuietTactic
import Derived.BigQuiet
import Derived.WideLaws
import Derived.Deep.DeepCutAuto
import Derived.Deep.CutBlock
import Derived.Deep.RegionHeld3
import Derived.Laws.Rows
import Derived.Lib.AppendStr
import Derived.ArgAppend
import Derived.Laws.IdiomCopy
import Derived.OrdersHeld
import Derived.Laws.BitsLemmas
import Derived.RowKit
import Derived.RegionTactic
import Derived.ChangeAlike
import Derived.BigRegion
import Derived.LoopN
import Derived.Test.YtobjnhkjahhfnaaDoorXWords
import Derived.Test.YtobjnhkjahhfnaaDoorXReplace
import Derived.Test.YtobjnhkjahhfnaaDoorXBytes
import Derived.Test.YtobjnhkjahhfnaaDoorXCopy
import Derived.Test.YtobjnhkjahhfnaaDoorXShelf
import Derived.Lib.ConvBytes
import Derived.WalkLawsBesides
import Derived.Test.YtobjnhkjahhfnaaDoorV
namespace Go.Proofs.YtobjnhkjahhfnaaDoor.PAll
open Go.RowKit Go.Proofs.YtobjnhkjahhfnaaDoor.XW Go.Proofs.YtobjnhkjahhfnaaDoor.XLib Go.Proofs.YtobjnhkjahhfnaaDoorW.PrintWords Go.Proofs.YtobjnhkjahhfnaaDoorW.PrintLast Go.Proofs.YtobjnhkjahhfnaaDoorW.PrintMore
attribute [local go_sem] max2_int min2_int max_two min_two max_three min_three max_four min_four   -- for this text's walks alone
set_option linter.unusedVariables false
set_option linter.unusedSimpArgs false



def errW:Option Int→Value
 | none=>.nilIface
 | some c=>.iface 0 (.int .i64 c)
theorem errW_none:errW none=.nilIface:=rfl
theorem errW_some (c:Int):errW (some c)=.iface 0 (.int .i64 c):=rfl

theorem info5:(Tryd.prog.info? 5).map (fun i=>(i.zero,i.size,i.bytes))=some (some (.int .u8 0),1,1):=by kernel_rfl
theorem info24:(Tryd.prog.info? 24).map (fun i=>(i.zero,i.size,i.bytes))=some (some (.agg #[(.int .i64 0),(.int .i64 0),(.string ⟨#[]⟩)]),3,32):=by kernel_rfl
-- the values' own types
/-! #### struct type 24 -/
structure S24 where
 f0:Int
 f1:Int
 f2:ByteArray
def z24:S24:=⟨(0:Int),(0:Int),(⟨#[]⟩:ByteArray)⟩
def k24:Kd S24:=Kd.iso (Kd.pair (Kd.int .i64) (Kd.pair (Kd.int .i64) Kd.string)) (fun x:S24=>(x.f0,x.f1,x.f2))
theorem k24_heap:Kd.Heap k24:=Kd.heap_iso _ (Kd.heap_pair (Kd.heap_int .i64) (Kd.heap_pair (Kd.heap_int .i64) Kd.heap_string))
theorem k24_open {w:World} {x:S24} {cs:List Value} (h:k24.K w x cs):cs=[.int .i64 x.f0,.int .i64 x.f1,.string x.f2]:=by
 obtain ⟨_,_,rfl,rfl,⟨_,_,rfl,rfl,rfl⟩⟩:=h
 exact rfl
theorem k24_openM {w:World} {base:Nat} {ok:Nat→Prop} {x:S24} {cs:List Value} (h:k24.M w base ok x cs):cs=[.int .i64 x.f0,.int .i64 x.f1,.string x.f2]:=by
 obtain ⟨_,_,rfl,rfl,⟨_,_,rfl,rfl,rfl⟩⟩:=h
 exact rfl
theorem k24_mk (w:World) (x:S24) :k24.K w x [.int .i64 x.f0,.int .i64 x.f1,.string x.f2]:=⟨[.int .i64 x.f0],[.int .i64 x.f1,.string x.f2],rfl,rfl,⟨[.int .i64 x.f1],[.string x.f2],rfl,rfl,rfl⟩⟩
theorem k24_mkM (w:World) (base:Nat) (ok:Nat→Prop) (x:S24) :k24.M w base ok x [.int .i64 x.f0,.int .i64 x.f1,.string x.f2]:=⟨[.int .i64 x.f0],[.int .i64 x.f1,.string x.f2],rfl,rfl,⟨[.int .i64 x.f1],[.string x.f2],rfl,rfl,rfl⟩⟩
theorem k24_mkF (W:World) (ok:Nat→Prop) (x:S24):Kd.FK k24 W ok x [.int .i64 x.f0,.int .i64 x.f1,.string x.f2]:=fun W2 _=>k24_mk W2 x
def rd_T24 (xs:List S24) (i:Int):S24:=xs.getD i.toNat z24
theorem at_T24 {w:World} {A:Option Addr} {n:Nat} {xs:List S24} (h:Kd.C k24 w A n xs) (i:Int) (h0:0≤i) (h1:i < n):∃ ad ,A=some ad∧w.cell? (ad.add (i.toNat * 3))=some (.int .i64 (rd_T24 xs i).f0)∧w.cell? ⟨(ad.add (i.toNat * 3)).block,(ad.add (i.toNat * 3)).off + 1,none⟩=some (.int .i64 (rd_T24 xs i).f1)∧w.cell? ⟨(ad.add (i.toNat * 3)).block,(ad.add (i.toNat * 3)).off + 2,none⟩=some (.string (rd_T24 xs i).f2):=by
 obtain ⟨ad,c,e,_,hK,hc0⟩:=Kd.C_get h z24 i h0 h1
 have hc:∀ j u,c[j]?=some u→w.cell? (ad.add (i.toNat * 3 + j))=some u:=hc0
 obtain rfl:=k24_open hK
 exact ⟨ad,e,hc 0 _ rfl,by rw [← add_field _ _ 1 (by omega)];exact hc 1 _ rfl,by rw [← add_field _ _ 2 (by omega)];exact hc 2 _ rfl⟩

/-! #### struct type 144 -/
structure S144 where
 f0:S24
 f1:S24
 f2:Bool
def z144:S144:=⟨z24,z24,false⟩
def k144:Kd S144:=Kd.iso (Kd.pair k24 (Kd.pair k24 Kd.bool)) (fun x:S144=>(x.f0,x.f1,x.f2))
theorem k144_heap:Kd.Heap k144:=Kd.heap_iso _ (Kd.heap_pair k24_heap (Kd.heap_pair k24_heap Kd.heap_bool))
theorem k144_open {w:World} {x:S144} {cs:List Value} (h:k144.K w x cs):cs=[.int .i64 x.f0.f0,.int .i64 x.f0.f1,.string x.f0.f2,.int .i64 x.f1.f0,.int .i64 x.f1.f1,.string x.f1.f2,.bool x.f2]:=by
 obtain ⟨_,_,rfl,s0,⟨_,_,rfl,s3,rfl⟩⟩:=h
 obtain rfl:=k24_open s0
 obtain rfl:=k24_open s3
 exact rfl
theorem k144_openM {w:World} {base:Nat} {ok:Nat→Prop} {x:S144} {cs:List Value} (h:k144.M w base ok x cs):cs=[.int .i64 x.f0.f0,.int .i64 x.f0.f1,.string x.f0.f2,.int .i64 x.f1.f0,.int .i64 x.f1.f1,.string x.f1.f2,.bool x.f2]:=by
 obtain ⟨_,_,rfl,s0,⟨_,_,rfl,s3,rfl⟩⟩:=h
 obtain rfl:=k24_openM s0
 obtain rfl:=k24_openM s3
 exact rfl
theorem k144_mk (w:World) (x:S144) :k144.K w x [.int .i64 x.f0.f0,.int .i64 x.f0.f1,.string x.f0.f2,.int .i64 x.f1.f0,.int .i64 x.f1.f1,.string x.f1.f2,.bool x.f2]:=⟨[.int .i64 x.f0.f0,.int .i64 x.f0.f1,.string x.f0.f2],[.int .i64 x.f1.f0,.int .i64 x.f1.f1,.string x.f1.f2,.bool x.f2],rfl,(k24_mk w x.f0 ),⟨[.int .i64 x.f1.f0,.int .i64 x.f1.f1,.string x.f1.f2],[.bool x.f2],rfl,(k24_mk w x.f1 ),rfl⟩⟩
theorem k144_mkM (w:World) (base:Nat) (ok:Nat→Prop) (x:S144) :k144.M w base ok x [.int .i64 x.f0.f0,.int .i64 x.f0.f1,.string x.f0.f2,.int .i64 x.f1.f0,.int .i64 x.f1.f1,.string x.f1.f2,.bool x.f2]:=⟨[.int .i64 x.f0.f0,.int .i64 x.f0.f1,.string x.f0.f2],[.int .i64 x.f1.f0,.int .i64 x.f1.f1,.string x.f1.f2,.bool x.f2],rfl,(k24_mkM w base ok x.f0 ),⟨[.int .i64 x.f1.f0,.int .i64 x.f1.f1,.string x.f1.f2],[.bool x.f2],rfl,(k24_mkM w base ok x.f1 ),rfl⟩⟩
theorem k144_mkF (W:World) (ok:Nat→Prop) (x:S144):Kd.FK k144 W ok x [.int .i64 x.f0.f0,.int .i64 x.f0.f1,.string x.f0.f2,.int .i64 x.f1.f0,.int .i64 x.f1.f1,.string x.f1.f2,.bool x.f2]:=fun W2 _=>k144_mk W2 x
def rd_T144 (xs:List S144) (i:Int):S144:=xs.getD i.toNat z144
theorem at_T144 {w:World} {A:Option Addr} {n:Nat} {xs:List S144} (h:Kd.C k144 w A n xs) (i:Int) (h0:0≤i) (h1:i < n):∃ ad ,A=some ad∧w.cell? (ad.add (i.toNat * 7))=some (.int .i64 (rd_T144 xs i).f0.f0)∧w.cell? ⟨(ad.add (i.toNat * 7)).block,(ad.add (i.toNat * 7)).off + 1,none⟩=some (.int .i64 (rd_T144 xs i).f0.f1)∧w.cell? ⟨(ad.add (i.toNat * 7)).block,(ad.add (i.toNat * 7)).off + 2,none⟩=some (.string (rd_T144 xs i).f0.f2)∧w.cell? ⟨(ad.add (i.toNat * 7)).block,(ad.add (i.toNat * 7)).off + 3,none⟩=some (.int .i64 (rd_T144 xs i).f1.f0)∧w.cell? ⟨(ad.add (i.toNat * 7)).block,(ad.add (i.toNat * 7)).off + 4,none⟩=some (.int .i64 (rd_T144 xs i).f1.f1)∧w.cell? ⟨(ad.add (i.toNat * 7)).block,(ad.add (i.toNat * 7)).off + 5,none⟩=some (.string (rd_T144 xs i).f1.f2)∧w.cell? ⟨(ad.add (i.toNat * 7)).block,(ad.add (i.toNat * 7)).off + 6,none⟩=some (.bool (rd_T144 xs i).f2):=by
 obtain ⟨ad,c,e,_,hK,hc0⟩:=Kd.C_get h z144 i h0 h1
 have hc:∀ j u,c[j]?=some u→w.cell? (ad.add (i.toNat * 7 + j))=some u:=hc0
 obtain rfl:=k144_open hK
 exact ⟨ad,e,hc 0 _ rfl,by rw [← add_field _ _ 1 (by omega)];exact hc 1 _ rfl,by rw [← add_field _ _ 2 (by omega)];exact hc 2 _ rfl,by rw [← add_field _ _ 3 (by omega)];exact hc 3 _ rfl,by rw [← add_field _ _ 4 (by omega)];exact hc 4 _ rfl,by rw [← add_field _ _ 5 (by omega)];exact hc 5 _ rfl,by rw [← add_field _ _ 6 (by omega)];exact hc 6 _ rfl⟩

/-! #### struct type 146 -/
structure S146 where
 f0:Int
 f1:S24
 f2:S24
def z146:S146:=⟨(0:Int),z24,z24⟩
def k146:Kd S146:=Kd.iso (Kd.pair (Kd.int .i64) (Kd.pair k24 k24)) (fun x:S146=>(x.f0,x.f1,x.f2))
theorem k146_heap:Kd.Heap k146:=Kd.heap_iso _ (Kd.heap_pair (Kd.heap_int .i64) (Kd.heap_pair k24_heap k24_heap))
theorem k146_open {w:World} {x:S146} {cs:List Value} (h:k146.K w x cs):cs=[.int .i64 x.f0,.int .i64 x.f1.f0,.int .i64 x.f1.f1,.string x.f1.f2,.int .i64 x.f2.f0,.int .i64 x.f2.f1,.string x.f2.f2]:=by
 obtain ⟨_,_,rfl,rfl,⟨_,_,rfl,s1,s4⟩⟩:=h
 obtain rfl:=k24_open s1
 obtain rfl:=k24_open s4
 exact rfl
theorem k146_openM {w:World} {base:Nat} {ok:Nat→Prop} {x:S146} {cs:List Value} (h:k146.M w base ok x cs):cs=[.int .i64 x.f0,.int .i64 x.f1.f0,.int .i64 x.f1.f1,.string x.f1.f2,.int .i64 x.f2.f0,.int .i64 x.f2.f1,.string x.f2.f2]:=by
 obtain ⟨_,_,rfl,rfl,⟨_,_,rfl,s1,s4⟩⟩:=h
 obtain rfl:=k24_openM s1
 obtain rfl:=k24_openM s4
 exact rfl
theorem k146_mk (w:World) (x:S146) :k146.K w x [.int .i64 x.f0,.int .i64 x.f1.f0,.int .i64 x.f1.f1,.string x.f1.f2,.int .i64 x.f2.f0,.int .i64 x.f2.f1,.string x.f2.f2]:=⟨[.int .i64 x.f0],[.int .i64 x.f1.f0,.int .i64 x.f1.f1,.string x.f1.f2,.int .i64 x.f2.f0,.int .i64 x.f2.f1,.string x.f2.f2],rfl,rfl,⟨[.int .i64 x.f1.f0,.int .i64 x.f1.f1,.string x.f1.f2],[.int .i64 x.f2.f0,.int .i64 x.f2.f1,.string x.f2.f2],rfl,(k24_mk w x.f1 ),(k24_mk w x.f2 )⟩⟩
theorem k146_mkM (w:World) (base:Nat) (ok:Nat→Prop) (x:S146) :k146.M w base ok x [.int .i64 x.f0,.int .i64 x.f1.f0,.int .i64 x.f1.f1,.string x.f1.f2,.int .i64 x.f2.f0,.int .i64 x.f2.f1,.string x.f2.f2]:=⟨[.int .i64 x.f0],[.int .i64 x.f1.f0,.int .i64 x.f1.f1,.string x.f1.f2,.int .i64 x.f2.f0,.int .i64 x.f2.f1,.string x.f2.f2],rfl,rfl,⟨[.int .i64 x.f1.f0,.int .i64 x.f1.f1,.string x.f1.f2],[.int .i64 x.f2.f0,.int .i64 x.f2.f1,.string x.f2.f2],rfl,(k24_mkM w base ok x.f1 ),(k24_mkM w base ok x.f2 )⟩⟩
theorem k146_mkF (W:World) (ok:Nat→Prop) (x:S146):Kd.FK k146 W ok x [.int .i64 x.f0,.int .i64 x.f1.f0,.int .i64 x.f1.f1,.string x.f1.f2,.int .i64 x.f2.f0,.int .i64 x.f2.f1,.string x.f2.f2]:=fun W2 _=>k146_mk W2 x
def rd_T146 (xs:List S146) (i:Int):S146:=xs.getD i.toNat z146
theorem at_T146 {w:World} {A:Option Addr} {n:Nat} {xs:List S146} (h:Kd.C k146 w A n xs) (i:Int) (h0:0≤i) (h1:i < n):∃ ad ,A=some ad∧w.cell? (ad.add (i.toNat * 7))=some (.int .i64 (rd_T146 xs i).f0)∧w.cell? ⟨(ad.add (i.toNat * 7)).block,(ad.add (i.toNat * 7)).off + 1,none⟩=some (.int .i64 (rd_T146 xs i).f1.f0)∧w.cell? ⟨(ad.add (i.toNat * 7)).block,(ad.add (i.toNat * 7)).off + 2,none⟩=some (.int .i64 (rd_T146 xs i).f1.f1)∧w.cell? ⟨(ad.add (i.toNat * 7)).block,(ad.add (i.toNat * 7)).off + 3,none⟩=some (.string (rd_T146 xs i).f1.f2)∧w.cell? ⟨(ad.add (i.toNat * 7)).block,(ad.add (i.toNat * 7)).off + 4,none⟩=some (.int .i64 (rd_T146 xs i).f2.f0)∧w.cell? ⟨(ad.add (i.toNat * 7)).block,(ad.add (i.toNat * 7)).off + 5,none⟩=some (.int .i64 (rd_T146 xs i).f2.f1)∧w.cell? ⟨(ad.add (i.toNat * 7)).block,(ad.add (i.toNat * 7)).off + 6,none⟩=some (.string (rd_T146 xs i).f2.f2):=by
 obtain ⟨ad,c,e,_,hK,hc0⟩:=Kd.C_get h z146 i h0 h1
 have hc:∀ j u,c[j]?=some u→w.cell? (ad.add (i.toNat * 7 + j))=some u:=hc0
 obtain rfl:=k146_open hK
 exact ⟨ad,e,hc 0 _ rfl,by rw [← add_field _ _ 1 (by omega)];exact hc 1 _ rfl,by rw [← add_field _ _ 2 (by omega)];exact hc 2 _ rfl,by rw [← add_field _ _ 3 (by omega)];exact hc 3 _ rfl,by rw [← add_field _ _ 4 (by omega)];exact hc 4 _ rfl,by rw [← add_field _ _ 5 (by omega)];exact hc 5 _ rfl,by rw [← add_field _ _ 6 (by omega)];exact hc 6 _ rfl⟩

abbrev zb1 := @blk_drewN
abbrev zb2 := @blk_drew
abbrev zb3 := @blk_alloc
abbrev zl1 := @below_alloc
abbrev zl2 := @pw_below_drewN
abbrev zl3 := @below_drew1
abbrev zk1 := @Kd.R_alloc
abbrev zk2 := @Kd.R_drewN
abbrev zk3 := @Kd.R_drew
theorem zpe {w : World} {g : Nat} {t : TypeId} {l : List Value} {cs : Array Value} (h : w.heap[g]? = some (.cells l.toArray t (0, 0))) (e : l.toArray = cs) : w.heap[g]? = some (.cells cs t (0, 0)) := e ▸ h
theorem zpi {w : World} {g : Nat} {t : TypeId} {l : List Value} (h : w.heap[g]? = some (.cells l.toArray t (0, 0))) (i : Nat) (u : Value) : (w.setCell ⟨g, i, none⟩ u).heap[g]? = some (.cells (l.set i u).toArray t (0, 0)) := blk_put h i u (by simp)
theorem zc3 {w : World} {g : Nat} {t : TypeId} {c0 c1 c2 : Value} (h : w.heap[g]? = some (.cells #[c0, c1, c2] t (0, 0))) : w.cell? ⟨g, 0, none⟩ = some c0 ∧ w.cell? ⟨g, 1, none⟩ = some c1 ∧ w.cell? ⟨g, 2, none⟩ = some c2 := ⟨(blk_cell h 0).trans rfl, (blk_cell h 1).trans rfl, (blk_cell h 2).trans rfl⟩
theorem zf3 {w : World} {g : Nat} {t : TypeId} {c0 c1 c2 : Value} (h : w.heap[g]? = some (.cells #[c0, c1, c2] t (0, 0))) : w.frozen? ⟨g, 0, none⟩ = false ∧ w.frozen? ⟨g, 1, none⟩ = false ∧ w.frozen? ⟨g, 2, none⟩ = false := ⟨blk_frozen h 0, blk_frozen h 1, blk_frozen h 2⟩
theorem zc10 {w : World} {g : Nat} {t : TypeId} {c0 c1 c2 c3 c4 c5 c6 c7 c8 c9 : Value} (h : w.heap[g]? = some (.cells #[c0, c1, c2, c3, c4, c5, c6, c7, c8, c9] t (0, 0))) : w.cell? ⟨g, 0, none⟩ = some c0 ∧ w.cell? ⟨g, 1, none⟩ = some c1 ∧ w.cell? ⟨g, 2, none⟩ = some c2 ∧ w.cell? ⟨g, 3, none⟩ = some c3 ∧ w.cell? ⟨g, 4, none⟩ = some c4 ∧ w.cell? ⟨g, 5, none⟩ = some c5 ∧ w.cell? ⟨g, 6, none⟩ = some c6 ∧ w.cell? ⟨g, 7, none⟩ = some c7 ∧ w.cell? ⟨g, 8, none⟩ = some c8 ∧ w.cell? ⟨g, 9, none⟩ = some c9 := ⟨(blk_cell h 0).trans rfl, (blk_cell h 1).trans rfl, (blk_cell h 2).trans rfl, (blk_cell h 3).trans rfl, (blk_cell h 4).trans rfl, (blk_cell h 5).trans rfl, (blk_cell h 6).trans rfl, (blk_cell h 7).trans rfl, (blk_cell h 8).trans rfl, (blk_cell h 9).trans rfl⟩
theorem zf10 {w : World} {g : Nat} {t : TypeId} {c0 c1 c2 c3 c4 c5 c6 c7 c8 c9 : Value} (h : w.heap[g]? = some (.cells #[c0, c1, c2, c3, c4, c5, c6, c7, c8, c9] t (0, 0))) : w.frozen? ⟨g, 0, none⟩ = false ∧ w.frozen? ⟨g, 1, none⟩ = false ∧ w.frozen? ⟨g, 2, none⟩ = false ∧ w.frozen? ⟨g, 3, none⟩ = false ∧ w.frozen? ⟨g, 4, none⟩ = false ∧ w.frozen? ⟨g, 5, none⟩ = false ∧ w.frozen? ⟨g, 6, none⟩ = false ∧ w.frozen? ⟨g, 7, none⟩ = false ∧ w.frozen? ⟨g, 8, none⟩ = false ∧ w.frozen? ⟨g, 9, none⟩ = false := ⟨blk_frozen h 0, blk_frozen h 1, blk_frozen h 2, blk_frozen h 3, blk_frozen h 4, blk_frozen h 5, blk_frozen h 6, blk_frozen h 7, blk_frozen h 8, blk_frozen h 9⟩
theorem zc14 {w : World} {g : Nat} {t : TypeId} {c0 c1 c2 c3 c4 c5 c6 c7 c8 c9 c10 c11 c12 c13 : Value} (h : w.heap[g]? = some (.cells #[c0, c1, c2, c3, c4, c5, c6, c7, c8, c9, c10, c11, c12, c13] t (0, 0))) : w.cell? ⟨g, 0, none⟩ = some c0 ∧ w.cell? ⟨g, 1, none⟩ = some c1 ∧ w.cell? ⟨g, 2, none⟩ = some c2 ∧ w.cell? ⟨g, 3, none⟩ = some c3 ∧ w.cell? ⟨g, 4, none⟩ = some c4 ∧ w.cell? ⟨g, 5, none⟩ = some c5 ∧ w.cell? ⟨g, 6, none⟩ = some c6 ∧ w.cell? ⟨g, 7, none⟩ = some c7 ∧ w.cell? ⟨g, 8, none⟩ = some c8 ∧ w.cell? ⟨g, 9, none⟩ = some c9 ∧ w.cell? ⟨g, 10, none⟩ = some c10 ∧ w.cell? ⟨g, 11, none⟩ = some c11 ∧ w.cell? ⟨g, 12, none⟩ = some c12 ∧ w.cell? ⟨g, 13, none⟩ = some c13 := ⟨(blk_cell h 0).trans rfl, (blk_cell h 1).trans rfl, (blk_cell h 2).trans rfl, (blk_cell h 3).trans rfl, (blk_cell h 4).trans rfl, (blk_cell h 5).trans rfl, (blk_cell h 6).trans rfl, (blk_cell h 7).trans rfl, (blk_cell h 8).trans rfl, (blk_cell h 9).trans rfl, (blk_cell h 10).trans rfl, (blk_cell h 11).trans rfl, (blk_cell h 12).trans rfl, (blk_cell h 13).trans rfl⟩
theorem zf14 {w : World} {g : Nat} {t : TypeId} {c0 c1 c2 c3 c4 c5 c6 c7 c8 c9 c10 c11 c12 c13 : Value} (h : w.heap[g]? = some (.cells #[c0, c1, c2, c3, c4, c5, c6, c7, c8, c9, c10, c11, c12, c13] t (0, 0))) : w.frozen? ⟨g, 0, none⟩ = false ∧ w.frozen? ⟨g, 1, none⟩ = false ∧ w.frozen? ⟨g, 2, none⟩ = false ∧ w.frozen? ⟨g, 3, none⟩ = false ∧ w.frozen? ⟨g, 4, none⟩ = false ∧ w.frozen? ⟨g, 5, none⟩ = false ∧ w.frozen? ⟨g, 6, none⟩ = false ∧ w.frozen? ⟨g, 7, none⟩ = false ∧ w.frozen? ⟨g, 8, none⟩ = false ∧ w.frozen? ⟨g, 9, none⟩ = false ∧ w.frozen? ⟨g, 10, none⟩ = false ∧ w.frozen? ⟨g, 11, none⟩ = false ∧ w.frozen? ⟨g, 12, none⟩ = false ∧ w.frozen? ⟨g, 13, none⟩ = false := ⟨blk_frozen h 0, blk_frozen h 1, blk_frozen h 2, blk_frozen h 3, blk_frozen h 4, blk_frozen h 5, blk_frozen h 6, blk_frozen h 7, blk_frozen h 8, blk_frozen h 9, blk_frozen h 10, blk_frozen h 11, blk_frozen h 12, blk_frozen h 13⟩
end Go.Proofs.YtobjnhkjahhfnaaDoor.PAll
