/- Printed walks of the functions that the laws reach: each function, what it computes, and that it does. No conditions. -/
import Derived.Test.YtnlfppfdfdopiaaDoorProg
import Derived.Below
import Derived.Deep.Draws
import Derived.Deep.AppendLies
import Derived.Maps.AppendAt
import Derived.OwnWalk
import Derived.Laws.BytesArg
import Derived.Laws.MakeOwn
import Derived.Laws.OwnMore
import Derived.Deep.OwnRows
import Derived.Tactics
import Derived.Lib.ConvBytes
import Derived.Laws.Slices
import Derived.WalkKit
import Derived.KernelRfl
import Derived.RowKit3
import Derived.Deep.LoopGhost
import Derived.Deep.QuietTactic
import Derived.BigQuiet
import Derived.WideLaws
import Derived.Deep.DeepCutAuto
import Derived.Deep.CutBlock
import Derived.Deep.RegionHeld3
import Derived.Laws.Rows
import Derived.Lib.AppendStr
import Derived.ArgAppend
import Derived.Laws.IdiomCopy
import Derived.OrdersHeld
import Derived.Laws.BitsLemmas
import Derived.RowKit
import Derived.Shelf.Abstract
import Derived.StillTailTactics
import Derived.IntWalk
import Derived.Test.YtnlfppfdfdopiaaDoorXWords
import Derived.Test.YtnlfppfdfdopiaaDoorXReplace
import Derived.Test.YtnlfppfdfdopiaaDoorXBytes
import Derived.Test.YtnlfppfdfdopiaaDoorXShelf
import Derived.Lib.ConvBytes
import Derived.WalkLawsBesides
import Derived.Test.YtnlfppfdfdopiaaDoorV
namespace Go.Proofs.YtnlfppfdfdopiaaDoor.PAll
open Go.RowKit Go.Proofs.YtnlfppfdfdopiaaDoor.XW Go.Proofs.YtnlfppfdfdopiaaDoor.XLib Go.Proofs.YtnlfppfdfdopiaaDoorW.PrintWords Go.Proofs.YtnlfppfdfdopiaaDoorW.PrintLast Go.Proofs.YtnlfppfdfdopiaaDoorW.PrintMore
attribute [local go_sem] max2_int min2_int max_two min_two max_three min_three max_four min_four   -- for this text's walks alone
set_option linter.unusedVariables false
set_option linter.unusedSimpArgs false



def errW:Option Int→Value
 | none=>.nilIface
 | some c=>.iface 0 (.int .i64 c)
theorem errW_none:errW none=.nilIface:=rfl
theorem errW_some (c:Int):errW (some c)=.iface 0 (.int .i64 c):=rfl

theorem info5:(Tryd.prog.info? 5).map (fun i=>(i.zero,i.size,i.bytes))=some (some (.int .u8 0),1,1):=by kernel_rfl
theorem info30:(Tryd.prog.info? 30).map (fun i=>(i.zero,i.size,i.bytes))=some (some (.agg #[(.int .i64 0),(.int .i64 0),(.string ⟨#[]⟩)]),3,32):=by kernel_rfl
-- the values' own types
/-! #### struct type 30 -/
structure S30 where
 f0:Int
 f1:Int
 f2:ByteArray
def z30:S30:=⟨(0:Int),(0:Int),(⟨#[]⟩:ByteArray)⟩
def k30:Kd S30:=Kd.iso (Kd.pair (Kd.int .i64) (Kd.pair (Kd.int .i64) Kd.string)) (fun x:S30=>(x.f0,x.f1,x.f2))
theorem k30_open {w:World} {x:S30} {cs:List Value} (h:k30.K w x cs):cs=[.int .i64 x.f0,.int .i64 x.f1,.string x.f2]:=by
 obtain ⟨_,_,rfl,rfl,⟨_,_,rfl,rfl,rfl⟩⟩:=h
 exact rfl
theorem k30_openM {w:World} {base:Nat} {ok:Nat→Prop} {x:S30} {cs:List Value} (h:k30.M w base ok x cs):cs=[.int .i64 x.f0,.int .i64 x.f1,.string x.f2]:=by
 obtain ⟨_,_,rfl,rfl,⟨_,_,rfl,rfl,rfl⟩⟩:=h
 exact rfl
theorem k30_mk (w:World) (x:S30) :k30.K w x [.int .i64 x.f0,.int .i64 x.f1,.string x.f2]:=⟨[.int .i64 x.f0],[.int .i64 x.f1,.string x.f2],rfl,rfl,⟨[.int .i64 x.f1],[.string x.f2],rfl,rfl,rfl⟩⟩
theorem k30_mkM (w:World) (base:Nat) (ok:Nat→Prop) (x:S30) :k30.M w base ok x [.int .i64 x.f0,.int .i64 x.f1,.string x.f2]:=⟨[.int .i64 x.f0],[.int .i64 x.f1,.string x.f2],rfl,rfl,⟨[.int .i64 x.f1],[.string x.f2],rfl,rfl,rfl⟩⟩
def rd_T30 (xs:List S30) (i:Int):S30:=xs.getD i.toNat z30
theorem at_T30 {w:World} {A:Option Addr} {n:Nat} {xs:List S30} (h:Kd.C k30 w A n xs) (i:Int) (h0:0≤i) (h1:i < n):∃ ad ,A=some ad∧w.cell? (ad.add (i.toNat * 3))=some (.int .i64 (rd_T30 xs i).f0)∧w.cell? ⟨(ad.add (i.toNat * 3)).block,(ad.add (i.toNat * 3)).off + 1,none⟩=some (.int .i64 (rd_T30 xs i).f1)∧w.cell? ⟨(ad.add (i.toNat * 3)).block,(ad.add (i.toNat * 3)).off + 2,none⟩=some (.string (rd_T30 xs i).f2):=by
 obtain ⟨ad,c,e,_,hK,hc0⟩:=Kd.C_get h z30 i h0 h1
 have hc:∀ j u,c[j]?=some u→w.cell? (ad.add (i.toNat * 3 + j))=some u:=hc0
 obtain rfl:=k30_open hK
 exact ⟨ad,e,hc 0 _ rfl,by rw [← add_field _ _ 1 (by omega)];exact hc 1 _ rfl,by rw [← add_field _ _ 2 (by omega)];exact hc 2 _ rfl⟩

/-! #### struct type 32 -/
structure S32 where
 f0:Int
 f1:Int
 f2:Int
 f3:S30
def z32:S32:=⟨(0:Int),(0:Int),(0:Int),z30⟩
def k32:Kd S32:=Kd.iso (Kd.pair (Kd.int .i64) (Kd.pair (Kd.int .i64) (Kd.pair (Kd.int .i64) k30))) (fun x:S32=>(x.f0,x.f1,x.f2,x.f3))
theorem k32_open {w:World} {x:S32} {cs:List Value} (h:k32.K w x cs):cs=[.int .i64 x.f0,.int .i64 x.f1,.int .i64 x.f2,.int .i64 x.f3.f0,.int .i64 x.f3.f1,.string x.f3.f2]:=by
 obtain ⟨_,_,rfl,rfl,⟨_,_,rfl,rfl,⟨_,_,rfl,rfl,s3⟩⟩⟩:=h
 obtain rfl:=k30_open s3
 exact rfl
theorem k32_openM {w:World} {base:Nat} {ok:Nat→Prop} {x:S32} {cs:List Value} (h:k32.M w base ok x cs):cs=[.int .i64 x.f0,.int .i64 x.f1,.int .i64 x.f2,.int .i64 x.f3.f0,.int .i64 x.f3.f1,.string x.f3.f2]:=by
 obtain ⟨_,_,rfl,rfl,⟨_,_,rfl,rfl,⟨_,_,rfl,rfl,s3⟩⟩⟩:=h
 obtain rfl:=k30_openM s3
 exact rfl
theorem k32_mk (w:World) (x:S32) :k32.K w x [.int .i64 x.f0,.int .i64 x.f1,.int .i64 x.f2,.int .i64 x.f3.f0,.int .i64 x.f3.f1,.string x.f3.f2]:=⟨[.int .i64 x.f0],[.int .i64 x.f1,.int .i64 x.f2,.int .i64 x.f3.f0,.int .i64 x.f3.f1,.string x.f3.f2],rfl,rfl,⟨[.int .i64 x.f1],[.int .i64 x.f2,.int .i64 x.f3.f0,.int .i64 x.f3.f1,.string x.f3.f2],rfl,rfl,⟨[.int .i64 x.f2],[.int .i64 x.f3.f0,.int .i64 x.f3.f1,.string x.f3.f2],rfl,rfl,(k30_mk w x.f3 )⟩⟩⟩
theorem k32_mkM (w:World) (base:Nat) (ok:Nat→Prop) (x:S32) :k32.M w base ok x [.int .i64 x.f0,.int .i64 x.f1,.int .i64 x.f2,.int .i64 x.f3.f0,.int .i64 x.f3.f1,.string x.f3.f2]:=⟨[.int .i64 x.f0],[.int .i64 x.f1,.int .i64 x.f2,.int .i64 x.f3.f0,.int .i64 x.f3.f1,.string x.f3.f2],rfl,rfl,⟨[.int .i64 x.f1],[.int .i64 x.f2,.int .i64 x.f3.f0,.int .i64 x.f3.f1,.string x.f3.f2],rfl,rfl,⟨[.int .i64 x.f2],[.int .i64 x.f3.f0,.int .i64 x.f3.f1,.string x.f3.f2],rfl,rfl,(k30_mkM w base ok x.f3 )⟩⟩⟩
def rd_T32 (xs:List S32) (i:Int):S32:=xs.getD i.toNat z32
theorem at_T32 {w:World} {A:Option Addr} {n:Nat} {xs:List S32} (h:Kd.C k32 w A n xs) (i:Int) (h0:0≤i) (h1:i < n):∃ ad ,A=some ad∧w.cell? (ad.add (i.toNat * 6))=some (.int .i64 (rd_T32 xs i).f0)∧w.cell? ⟨(ad.add (i.toNat * 6)).block,(ad.add (i.toNat * 6)).off + 1,none⟩=some (.int .i64 (rd_T32 xs i).f1)∧w.cell? ⟨(ad.add (i.toNat * 6)).block,(ad.add (i.toNat * 6)).off + 2,none⟩=some (.int .i64 (rd_T32 xs i).f2)∧w.cell? ⟨(ad.add (i.toNat * 6)).block,(ad.add (i.toNat * 6)).off + 3,none⟩=some (.int .i64 (rd_T32 xs i).f3.f0)∧w.cell? ⟨(ad.add (i.toNat * 6)).block,(ad.add (i.toNat * 6)).off + 4,none⟩=some (.int .i64 (rd_T32 xs i).f3.f1)∧w.cell? ⟨(ad.add (i.toNat * 6)).block,(ad.add (i.toNat * 6)).off + 5,none⟩=some (.string (rd_T32 xs i).f3.f2):=by
 obtain ⟨ad,c,e,_,hK,hc0⟩:=Kd.C_get h z32 i h0 h1
 have hc:∀ j u,c[j]?=some u→w.cell? (ad.add (i.toNat * 6 + j))=some u:=hc0
 obtain rfl:=k32_open hK
 exact ⟨ad,e,hc 0 _ rfl,by rw [← add_field _ _ 1 (by omega)];exact hc 1 _ rfl,by rw [← add_field _ _ 2 (by omega)];exact hc 2 _ rfl,by rw [← add_field _ _ 3 (by omega)];exact hc 3 _ rfl,by rw [← add_field _ _ 4 (by omega)];exact hc 4 _ rfl,by rw [← add_field _ _ 5 (by omega)];exact hc 5 _ rfl⟩

abbrev zb1 := @blk_drewN
abbrev zb2 := @blk_drew
abbrev zb3 := @blk_alloc
abbrev zl1 := @below_alloc
abbrev zl2 := @pw_below_drewN
abbrev zl3 := @below_drew1
abbrev zk1 := @Kd.R_alloc
abbrev zk2 := @Kd.R_drewN
abbrev zk3 := @Kd.R_drew
theorem zpe {w : World} {g : Nat} {t : TypeId} {l : List Value} {cs : Array Value} (h : w.heap[g]? = some (.cells l.toArray t (0, 0))) (e : l.toArray = cs) : w.heap[g]? = some (.cells cs t (0, 0)) := e ▸ h
theorem zpi {w : World} {g : Nat} {t : TypeId} {l : List Value} (h : w.heap[g]? = some (.cells l.toArray t (0, 0))) (i : Nat) (u : Value) : (w.setCell ⟨g, i, none⟩ u).heap[g]? = some (.cells (l.set i u).toArray t (0, 0)) := blk_put h i u (by simp)
theorem zc3 {w : World} {g : Nat} {t : TypeId} {c0 c1 c2 : Value} (h : w.heap[g]? = some (.cells #[c0, c1, c2] t (0, 0))) : w.cell? ⟨g, 0, none⟩ = some c0 ∧ w.cell? ⟨g, 1, none⟩ = some c1 ∧ w.cell? ⟨g, 2, none⟩ = some c2 := ⟨(blk_cell h 0).trans rfl, (blk_cell h 1).trans rfl, (blk_cell h 2).trans rfl⟩
theorem zf3 {w : World} {g : Nat} {t : TypeId} {c0 c1 c2 : Value} (h : w.heap[g]? = some (.cells #[c0, c1, c2] t (0, 0))) : w.frozen? ⟨g, 0, none⟩ = false ∧ w.frozen? ⟨g, 1, none⟩ = false ∧ w.frozen? ⟨g, 2, none⟩ = false := ⟨blk_frozen h 0, blk_frozen h 1, blk_frozen h 2⟩
theorem zc6 {w : World} {g : Nat} {t : TypeId} {c0 c1 c2 c3 c4 c5 : Value} (h : w.heap[g]? = some (.cells #[c0, c1, c2, c3, c4, c5] t (0, 0))) : w.cell? ⟨g, 0, none⟩ = some c0 ∧ w.cell? ⟨g, 1, none⟩ = some c1 ∧ w.cell? ⟨g, 2, none⟩ = some c2 ∧ w.cell? ⟨g, 3, none⟩ = some c3 ∧ w.cell? ⟨g, 4, none⟩ = some c4 ∧ w.cell? ⟨g, 5, none⟩ = some c5 := ⟨(blk_cell h 0).trans rfl, (blk_cell h 1).trans rfl, (blk_cell h 2).trans rfl, (blk_cell h 3).trans rfl, (blk_cell h 4).trans rfl, (blk_cell h 5).trans rfl⟩
theorem zf6 {w : World} {g : Nat} {t : TypeId} {c0 c1 c2 c3 c4 c5 : Value} (h : w.heap[g]? = some (.cells #[c0, c1, c2, c3, c4, c5] t (0, 0))) : w.frozen? ⟨g, 0, none⟩ = false ∧ w.frozen? ⟨g, 1, none⟩ = false ∧ w.frozen? ⟨g, 2, none⟩ = false ∧ w.frozen? ⟨g, 3, none⟩ = false ∧ w.frozen? ⟨g, 4, none⟩ = false ∧ w.frozen? ⟨g, 5, none⟩ = false := ⟨blk_frozen h 0, blk_frozen h 1, blk_frozen h 2, blk_frozen h 3, blk_frozen h 4, blk_frozen h 5⟩
end Go.Proofs.YtnlfppfdfdopiaaDoor.PAll
