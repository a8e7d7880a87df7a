/- Printed walks of the functions that the laws reach: each function, what it computes, and that it does. No conditions. -/
import Derived.Test.YtokjbncjapndgaaDoorPAllx0
import Derived.Test.YtokjbncjapndgaaDoorPAllx16
import Derived.Test.YtokjbncjapndgaaDoorPAllx17
import Derived.Test.YtokjbncjapndgaaDoorPAllx18
import Derived.Test.YtokjbncjapndgaaDoorPAllx26
namespace Go.Proofs.YtokjbncjapndgaaDoor.PAll
open Go.RowKit Go.Proofs.YtokjbncjapndgaaDoor.XW Go.Proofs.YtokjbncjapndgaaDoor.XLib Go.Proofs.YtokjbncjapndgaaDoorW.PrintWords Go.Proofs.YtokjbncjapndgaaDoorW.PrintLast Go.Proofs.YtokjbncjapndgaaDoorW.PrintMore
attribute [local go_sem] max2_int min2_int max_two min_two max_three min_three max_four min_four   -- for this text's walks alone
set_option linter.unusedVariables false
set_option linter.unusedSimpArgs false

/-! ### factotumref09_Read: function 7 -/
mutual
def factotumref09_Read.j4 : Nat → ByteArray → ByteArray → Int → Int → Bool → List (S44) → List ByteArray → List Int → Option (Bool × (List (S44)) × List ByteArray × List Int × Int)
 | 0,_,_,_,_,_,_,_,_ => none
 | k + 1,x0,x356000,x356001,x356002,x365000,x365001,x365002,x365003 => (factotumref09_Write.f k x365000 x365001 x365002 x365003).bind fun bt397 => (if x356002 = 0 then (if bt397.2 = 0 then (factotumref09_Read.j5 k (bt397.1.toList != x0.toList) x365000 x365001 x365002 x365003) else (factotumref09_Read.j5 k true x365000 x365001 x365002 x365003)) else (factotumref09_Read.j5 k true x365000 x365001 x365002 x365003))
def factotumref09_Read.j5 : Nat → Bool → Bool → List (S44) → List ByteArray → List Int → Option (Bool × (List (S44)) × List ByteArray × List Int × Int)
 | 0,_,_,_,_,_ => none
 | k + 1,x106,x365000,x365001,x365002,x365003 => if x106 = true then (some (false,([] : List (S44)),([] : List ByteArray),([] : List Int),10)) else (some (x365000,x365001,x365002,x365003,0))
def factotumref09_Read.l0 : Nat → ByteArray → Int → Int → ByteArray → Int → Int → Bool → List (S44) → Option (Bool × (List (S44)) × List ByteArray × List Int × Int)
 | 0,_,_,_,_,_,_,_,_ => none
 | k + 1,x0,x6,x8,x356000,x356001,x356002,x365000,x365001 => if x8 < x6 then (factotumref09_Read.j1 k x0 x6 x8 (x356002 == 0) x356000 x356001 x356002 x365000 x365001) else (factotumref09_Read.j1 k x0 x6 x8 false x356000 x356001 x356002 x365000 x365001)
def factotumref09_Read.j1 : Nat → ByteArray → Int → Int → Bool → ByteArray → Int → Int → Bool → List (S44) → Option (Bool × (List (S44)) × List ByteArray × List Int × Int)
 | 0,_,_,_,_,_,_,_,_,_ => none
 | k + 1,x0,x6,x8,x35,x356000,x356001,x356002,x365000,x365001 => if x35 = true then ((factotumref01_Reader_Str.f x356000 x356001 x356002 255).bind fun bt365 => ((factotumref01_Reader_Str.f bt365.2.1 bt365.2.2.1 bt365.2.2.2 255).bind fun bt369 => (if x365001.length < 4398046511104 then (factotumref09_Read.l0 k x0 x6 (IntKind.u64.wrap (x8 + 1)) bt369.2.1 bt369.2.2.1 bt369.2.2.2 x365000 (x365001 ++ [(⟨bt365.1,bt369.1⟩ : S44)])) else (none)))) else (factotumref09_Read.j4 k x0 x356000 x356001 x356002 x365000 x365001 ([] : List ByteArray) ([] : List Int))
def factotumref09_Read.l1 : Nat → ByteArray → Int → Int → ByteArray → Int → Int → Bool → List ByteArray → List Int → Option (Bool × (List (S44)) × List ByteArray × List Int × Int)
 | 0,_,_,_,_,_,_,_,_,_ => none
 | k + 1,x0,x6,x12,x356000,x356001,x356002,x365000,x365002,x365003 => if x12 < x6 then (factotumref09_Read.j3 k x0 x6 x12 (x356002 == 0) x356000 x356001 x356002 x365000 x365002 x365003) else (factotumref09_Read.j3 k x0 x6 x12 false x356000 x356001 x356002 x365000 x365002 x365003)
def factotumref09_Read.j3 : Nat → ByteArray → Int → Int → Bool → ByteArray → Int → Int → Bool → List ByteArray → List Int → Option (Bool × (List (S44)) × List ByteArray × List Int × Int)
 | 0,_,_,_,_,_,_,_,_,_,_ => none
 | k + 1,x0,x6,x12,x68,x356000,x356001,x356002,x365000,x365002,x365003 => if x68 = true then ((factotumref01_Reader_Str.f x356000 x356001 x356002 255).bind fun bt383 => ((factotumref01_Reader_Num.f k bt383.2.1 bt383.2.2.1 bt383.2.2.2 2).bind fun bt387 => (if x365002.length < 8796093022208 then (if x365003.length < 17592186044416 then (factotumref09_Read.l1 k x0 x6 (IntKind.u64.wrap (x12 + 1)) bt387.2.1 bt387.2.2.1 bt387.2.2.2 x365000 (x365002 ++ [bt383.1]) (x365003 ++ [wrap64 (bt387.1)])) else (none)) else (none)))) else (factotumref09_Read.j4 k x0 x356000 x356001 x356002 x365000 ([] : List (S44)) x365002 x365003)
end
def factotumref09_Read.f (k : Nat) (a0 : ByteArray) : Option (Bool × (List (S44)) × List ByteArray × List Int × Int):=(factotumref01_Reader_Num.f k a0 0 0 1).bind fun bt356 => ((factotumref01_Reader_Num.f k bt356.2.1 bt356.2.2.1 bt356.2.2.2 1).bind fun bt360 => (if bt356.1 = 1 then (factotumref09_Read.l0 k a0 bt360.1 0 bt360.2.1 bt360.2.2.1 bt360.2.2.2 true ([] : List (S44))) else ((factotumref01_Reader_Num.f k bt360.2.1 bt360.2.2.1 bt360.2.2.2 2).bind fun bt376 => (if ([] : List Int).length < 17592186044416 then (factotumref09_Read.l1 k a0 bt360.1 0 bt376.2.1 bt376.2.2.1 bt376.2.2.2 false ([] : List ByteArray) (([] : List Int) ++ [wrap64 (bt376.1)])) else (none)))))
theorem factotumref09_Read.mono_l : ∀ k,(∀ y0 y1 y2 y3 y4 y5 y6 y7,LeO (factotumref09_Read.j4 k y0 y1 y2 y3 y4 y5 y6 y7) (factotumref09_Read.j4 (k + 1) y0 y1 y2 y3 y4 y5 y6 y7))∧(∀ y0 y1 y2 y3 y4,LeO (factotumref09_Read.j5 k y0 y1 y2 y3 y4) (factotumref09_Read.j5 (k + 1) y0 y1 y2 y3 y4))∧(∀ y0 y1 y2 y3 y4 y5 y6 y7,LeO (factotumref09_Read.l0 k y0 y1 y2 y3 y4 y5 y6 y7) (factotumref09_Read.l0 (k + 1) y0 y1 y2 y3 y4 y5 y6 y7))∧(∀ y0 y1 y2 y3 y4 y5 y6 y7 y8,LeO (factotumref09_Read.j1 k y0 y1 y2 y3 y4 y5 y6 y7 y8) (factotumref09_Read.j1 (k + 1) y0 y1 y2 y3 y4 y5 y6 y7 y8))∧(∀ y0 y1 y2 y3 y4 y5 y6 y7 y8,LeO (factotumref09_Read.l1 k y0 y1 y2 y3 y4 y5 y6 y7 y8) (factotumref09_Read.l1 (k + 1) y0 y1 y2 y3 y4 y5 y6 y7 y8))∧(∀ y0 y1 y2 y3 y4 y5 y6 y7 y8 y9,LeO (factotumref09_Read.j3 k y0 y1 y2 y3 y4 y5 y6 y7 y8 y9) (factotumref09_Read.j3 (k + 1) y0 y1 y2 y3 y4 y5 y6 y7 y8 y9))
 | 0 => ⟨fun _ _ _ _ _ _ _ _ r h => by simp [factotumref09_Read.j4] at h,fun _ _ _ _ _ r h => by simp [factotumref09_Read.j5] at h,fun _ _ _ _ _ _ _ _ r h => by simp [factotumref09_Read.l0] at h,fun _ _ _ _ _ _ _ _ _ r h => by simp [factotumref09_Read.j1] at h,fun _ _ _ _ _ _ _ _ _ r h => by simp [factotumref09_Read.l1] at h,fun _ _ _ _ _ _ _ _ _ _ r h => by simp [factotumref09_Read.j3] at h⟩
 | k + 1 => by
  obtain ⟨ih0,ih1,ih2,ih3,ih4,ih5⟩:=factotumref09_Read.mono_l k
  refine ⟨?_,?_,?_,?_,?_,?_⟩
  ·intro y0 y1 y2 y3 y4 y5 y6 y7
   unfold factotumref09_Read.j4
   repeat' first
   | (with_reducible exact ih0 _ _ _ _ _ _ _ _)
   | (with_reducible exact ih1 _ _ _ _ _)
   | (with_reducible exact ih2 _ _ _ _ _ _ _ _)
   | (with_reducible exact ih3 _ _ _ _ _ _ _ _ _)
   | (with_reducible exact ih4 _ _ _ _ _ _ _ _ _)
   | (with_reducible exact ih5 _ _ _ _ _ _ _ _ _ _)
   | (with_reducible exact factotumref01_Reader_Num.mono _ _ _ _ _)
   | (with_reducible exact factotumref09_Write.mono _ _ _ _ _)
   | (with_reducible exact LeO.refl _)
   | (with_reducible exact LeO.none _)
   | (with_reducible refine LeO.ite ?_ ?_)
   | (with_reducible refine LeO.bind ?_ (fun _ => ?_))
   | exact ih0 _ _ _ _ _ _ _ _
   | exact ih1 _ _ _ _ _
   | exact ih2 _ _ _ _ _ _ _ _
   | exact ih3 _ _ _ _ _ _ _ _ _
   | exact ih4 _ _ _ _ _ _ _ _ _
   | exact ih5 _ _ _ _ _ _ _ _ _ _
   | exact factotumref01_Reader_Num.mono _ _ _ _ _
   | exact factotumref09_Write.mono _ _ _ _ _
   | exact LeO.none _
   | refine LeO.ite ?_ ?_
   | refine LeO.bind ?_ (fun _ => ?_)
  ·intro y0 y1 y2 y3 y4
   unfold factotumref09_Read.j5
   repeat' first
   | (with_reducible exact ih0 _ _ _ _ _ _ _ _)
   | (with_reducible exact ih1 _ _ _ _ _)
   | (with_reducible exact ih2 _ _ _ _ _ _ _ _)
   | (with_reducible exact ih3 _ _ _ _ _ _ _ _ _)
   | (with_reducible exact ih4 _ _ _ _ _ _ _ _ _)
   | (with_reducible exact ih5 _ _ _ _ _ _ _ _ _ _)
   | (with_reducible exact factotumref01_Reader_Num.mono _ _ _ _ _)
   | (with_reducible exact factotumref09_Write.mono _ _ _ _ _)
   | (with_reducible exact LeO.refl _)
   | (with_reducible exact LeO.none _)
   | (with_reducible refine LeO.ite ?_ ?_)
   | (with_reducible refine LeO.bind ?_ (fun _ => ?_))
   | exact ih0 _ _ _ _ _ _ _ _
   | exact ih1 _ _ _ _ _
   | exact ih2 _ _ _ _ _ _ _ _
   | exact ih3 _ _ _ _ _ _ _ _ _
   | exact ih4 _ _ _ _ _ _ _ _ _
   | exact ih5 _ _ _ _ _ _ _ _ _ _
   | exact factotumref01_Reader_Num.mono _ _ _ _ _
   | exact factotumref09_Write.mono _ _ _ _ _
   | exact LeO.none _
   | refine LeO.ite ?_ ?_
   | refine LeO.bind ?_ (fun _ => ?_)
  ·intro y0 y1 y2 y3 y4 y5 y6 y7
   unfold factotumref09_Read.l0
   repeat' first
   | (with_reducible exact ih0 _ _ _ _ _ _ _ _)
   | (with_reducible exact ih1 _ _ _ _ _)
   | (with_reducible exact ih2 _ _ _ _ _ _ _ _)
   | (with_reducible exact ih3 _ _ _ _ _ _ _ _ _)
   | (with_reducible exact ih4 _ _ _ _ _ _ _ _ _)
   | (with_reducible exact ih5 _ _ _ _ _ _ _ _ _ _)
   | (with_reducible exact factotumref01_Reader_Num.mono _ _ _ _ _)
   | (with_reducible exact factotumref09_Write.mono _ _ _ _ _)
   | (with_reducible exact LeO.refl _)
   | (with_reducible exact LeO.none _)
   | (with_reducible refine LeO.ite ?_ ?_)
   | (with_reducible refine LeO.bind ?_ (fun _ => ?_))
   | exact ih0 _ _ _ _ _ _ _ _
   | exact ih1 _ _ _ _ _
   | exact ih2 _ _ _ _ _ _ _ _
   | exact ih3 _ _ _ _ _ _ _ _ _
   | exact ih4 _ _ _ _ _ _ _ _ _
   | exact ih5 _ _ _ _ _ _ _ _ _ _
   | exact factotumref01_Reader_Num.mono _ _ _ _ _
   | exact factotumref09_Write.mono _ _ _ _ _
   | exact LeO.none _
   | refine LeO.ite ?_ ?_
   | refine LeO.bind ?_ (fun _ => ?_)
  ·intro y0 y1 y2 y3 y4 y5 y6 y7 y8
   unfold factotumref09_Read.j1
   repeat' first
   | (with_reducible exact ih0 _ _ _ _ _ _ _ _)
   | (with_reducible exact ih1 _ _ _ _ _)
   | (with_reducible exact ih2 _ _ _ _ _ _ _ _)
   | (with_reducible exact ih3 _ _ _ _ _ _ _ _ _)
   | (with_reducible exact ih4 _ _ _ _ _ _ _ _ _)
   | (with_reducible exact ih5 _ _ _ _ _ _ _ _ _ _)
   | (with_reducible exact factotumref01_Reader_Num.mono _ _ _ _ _)
   | (with_reducible exact factotumref09_Write.mono _ _ _ _ _)
   | (with_reducible exact LeO.refl _)
   | (with_reducible exact LeO.none _)
   | (with_reducible refine LeO.ite ?_ ?_)
   | (with_reducible refine LeO.bind ?_ (fun _ => ?_))
   | exact ih0 _ _ _ _ _ _ _ _
   | exact ih1 _ _ _ _ _
   | exact ih2 _ _ _ _ _ _ _ _
   | exact ih3 _ _ _ _ _ _ _ _ _
   | exact ih4 _ _ _ _ _ _ _ _ _
   | exact ih5 _ _ _ _ _ _ _ _ _ _
   | exact factotumref01_Reader_Num.mono _ _ _ _ _
   | exact factotumref09_Write.mono _ _ _ _ _
   | exact LeO.none _
   | refine LeO.ite ?_ ?_
   | refine LeO.bind ?_ (fun _ => ?_)
  ·intro y0 y1 y2 y3 y4 y5 y6 y7 y8
   unfold factotumref09_Read.l1
   repeat' first
   | (with_reducible exact ih0 _ _ _ _ _ _ _ _)
   | (with_reducible exact ih1 _ _ _ _ _)
   | (with_reducible exact ih2 _ _ _ _ _ _ _ _)
   | (with_reducible exact ih3 _ _ _ _ _ _ _ _ _)
   | (with_reducible exact ih4 _ _ _ _ _ _ _ _ _)
   | (with_reducible exact ih5 _ _ _ _ _ _ _ _ _ _)
   | (with_reducible exact factotumref01_Reader_Num.mono _ _ _ _ _)
   | (with_reducible exact factotumref09_Write.mono _ _ _ _ _)
   | (with_reducible exact LeO.refl _)
   | (with_reducible exact LeO.none _)
   | (with_reducible refine LeO.ite ?_ ?_)
   | (with_reducible refine LeO.bind ?_ (fun _ => ?_))
   | exact ih0 _ _ _ _ _ _ _ _
   | exact ih1 _ _ _ _ _
   | exact ih2 _ _ _ _ _ _ _ _
   | exact ih3 _ _ _ _ _ _ _ _ _
   | exact ih4 _ _ _ _ _ _ _ _ _
   | exact ih5 _ _ _ _ _ _ _ _ _ _
   | exact factotumref01_Reader_Num.mono _ _ _ _ _
   | exact factotumref09_Write.mono _ _ _ _ _
   | exact LeO.none _
   | refine LeO.ite ?_ ?_
   | refine LeO.bind ?_ (fun _ => ?_)
  ·intro y0 y1 y2 y3 y4 y5 y6 y7 y8 y9
   unfold factotumref09_Read.j3
   repeat' first
   | (with_reducible exact ih0 _ _ _ _ _ _ _ _)
   | (with_reducible exact ih1 _ _ _ _ _)
   | (with_reducible exact ih2 _ _ _ _ _ _ _ _)
   | (with_reducible exact ih3 _ _ _ _ _ _ _ _ _)
   | (with_reducible exact ih4 _ _ _ _ _ _ _ _ _)
   | (with_reducible exact ih5 _ _ _ _ _ _ _ _ _ _)
   | (with_reducible exact factotumref01_Reader_Num.mono _ _ _ _ _)
   | (with_reducible exact factotumref09_Write.mono _ _ _ _ _)
   | (with_reducible exact LeO.refl _)
   | (with_reducible exact LeO.none _)
   | (with_reducible refine LeO.ite ?_ ?_)
   | (with_reducible refine LeO.bind ?_ (fun _ => ?_))
   | exact ih0 _ _ _ _ _ _ _ _
   | exact ih1 _ _ _ _ _
   | exact ih2 _ _ _ _ _ _ _ _
   | exact ih3 _ _ _ _ _ _ _ _ _
   | exact ih4 _ _ _ _ _ _ _ _ _
   | exact ih5 _ _ _ _ _ _ _ _ _ _
   | exact factotumref01_Reader_Num.mono _ _ _ _ _
   | exact factotumref09_Write.mono _ _ _ _ _
   | exact LeO.none _
   | refine LeO.ite ?_ ?_
   | refine LeO.bind ?_ (fun _ => ?_)
theorem factotumref09_Read.mono : ∀ a0 k,LeO (factotumref09_Read.f k a0) (factotumref09_Read.f (k + 1) a0):=by
 intro a0 k
 obtain ⟨ih0,ih1,ih2,ih3,ih4,ih5⟩:=factotumref09_Read.mono_l k
 unfold factotumref09_Read.f
 repeat' first
   | (with_reducible exact ih0 _ _ _ _ _ _ _ _)
   | (with_reducible exact ih1 _ _ _ _ _)
   | (with_reducible exact ih2 _ _ _ _ _ _ _ _)
   | (with_reducible exact ih3 _ _ _ _ _ _ _ _ _)
   | (with_reducible exact ih4 _ _ _ _ _ _ _ _ _)
   | (with_reducible exact ih5 _ _ _ _ _ _ _ _ _ _)
   | (with_reducible exact factotumref01_Reader_Num.mono _ _ _ _ _)
   | (with_reducible exact factotumref09_Write.mono _ _ _ _ _)
   | (with_reducible exact LeO.refl _)
   | (with_reducible exact LeO.none _)
   | (with_reducible refine LeO.ite ?_ ?_)
   | (with_reducible refine LeO.bind ?_ (fun _ => ?_))
   | exact ih0 _ _ _ _ _ _ _ _
   | exact ih1 _ _ _ _ _
   | exact ih2 _ _ _ _ _ _ _ _
   | exact ih3 _ _ _ _ _ _ _ _ _
   | exact ih4 _ _ _ _ _ _ _ _ _
   | exact ih5 _ _ _ _ _ _ _ _ _ _
   | exact factotumref01_Reader_Num.mono _ _ _ _ _
   | exact factotumref09_Write.mono _ _ _ _ _
   | exact LeO.none _
   | refine LeO.ite ?_ ?_
   | refine LeO.bind ?_ (fun _ => ?_)
set_option maxHeartbeats 8000000 in
set_option maxRecDepth 100000 in
theorem factotumref09_Read.calls (k : Nat) (a0 : ByteArray) (r1 : Bool) (r2 : List (S44)) (r3 : List ByteArray) (r4 : List Int) (r5 : Int) (w : World) (h : factotumref09_Read.f k a0 = some (r1,r2,r3,r4,r5)) :
  Calls Tryd.prog 7 #[.string a0] w fun e w' => ∃ v1_ v2_ v3_ : Value,e = .returned (.tuple #[.agg #[.bool r1,v1_,v2_,v3_],.int .i64 r5])∧Kd.R k44 44 w' w.heap.size (fun _ => True) v1_ r2∧Kd.R Kd.string 9 w' w.heap.size (fun _ => True) v2_ r3∧Kd.R (Kd.int .i64) 3 w' w.heap.size (fun _ => True) v3_ r4∧Below w.heap.size w w':=by
 have hu27:=Tryd.underlying27
 have hu51:=Tryd.underlying51
 have hu44:=Tryd.underlying44
 have HB:=Aside0.mk (Below.refl w.heap.size w)
 have H : ((factotumref01_Reader_Num.f k a0 0 0 1).bind fun bt356 => ((factotumref01_Reader_Num.f k bt356.2.1 bt356.2.2.1 bt356.2.2.2 1).bind fun bt360 => (if bt356.1 = 1 then (factotumref09_Read.l0 k a0 bt360.1 0 bt360.2.1 bt360.2.2.1 bt360.2.2.2 true ([] : List (S44))) else ((factotumref01_Reader_Num.f k bt360.2.1 bt360.2.2.1 bt360.2.2.2 2).bind fun bt376 => (if ([] : List Int).length < 17592186044416 then (factotumref09_Read.l1 k a0 bt360.1 0 bt376.2.1 bt376.2.2.1 bt376.2.2.2 false ([] : List ByteArray) (([] : List Int) ++ [wrap64 (bt376.1)])) else (none)))))) = some (r1,r2,r3,r4,r5):=h
 clear h
 replace H:=Option.bind_eq_some_iff.mp H
 obtain ⟨⟨t356,t357,t358,t359⟩,A20,H⟩:=H
 replace H : ((factotumref01_Reader_Num.f k t357 t358 t359 1).bind fun bt360 => (if t356 = 1 then (factotumref09_Read.l0 k a0 bt360.1 0 bt360.2.1 bt360.2.2.1 bt360.2.2.2 true ([] : List (S44))) else ((factotumref01_Reader_Num.f k bt360.2.1 bt360.2.2.1 bt360.2.2.2 2).bind fun bt376 => (if ([] : List Int).length < 17592186044416 then (factotumref09_Read.l1 k a0 bt360.1 0 bt376.2.1 bt376.2.2.1 bt376.2.2.2 false ([] : List ByteArray) (([] : List Int) ++ [wrap64 (bt376.1)])) else (none))))) = some (r1,r2,r3,r4,r5):=H
 have A2:=Aside0.mk A20
 clear A20
 replace H:=Option.bind_eq_some_iff.mp H
 obtain ⟨⟨t360,t361,t362,t363⟩,A30,H⟩:=H
 replace H : (if t356 = 1 then (factotumref09_Read.l0 k a0 t360 0 t361 t362 t363 true ([] : List (S44))) else ((factotumref01_Reader_Num.f k t361 t362 t363 2).bind fun bt376 => (if ([] : List Int).length < 17592186044416 then (factotumref09_Read.l1 k a0 t360 0 bt376.2.1 bt376.2.2.1 bt376.2.2.2 false ([] : List ByteArray) (([] : List Int) ++ [wrap64 (bt376.1)])) else (none)))) = some (r1,r2,r3,r4,r5):=H
 have A3:=Aside0.mk A30
 clear A30
 have HC4:=Aside0.mk H
 clear H
 go_enter Tryd.func7,Tryd.ntmps7
 go_upto_if 24 with (first|((with_reducible refine gate_dst (N:=2) rfl ?_);refine box_event ?hg (N:=2) ?hd (cs:=#[.bool false,.slice none 0 0,.slice none 0 0,.slice none 0 0]) (t:=27) ?hr ?_;(case hd => rfl);(case hg => rfl);(case hr => first|(go_simp;done)|(go_simp;rfl));intro gb354 hg w5 hbox hb;have BK354:=Aside0.mk (hbox);have GW354:=Aside0.mk ((by rw [hg];exact (below_size (by repeat (first|(with_reducible first|exact HB.out|apply zl1|apply zl2|apply zl3)|exact HB.out))) : w.heap.size ≤ gb354));have GE354:=Aside0.mk ((by rw [hg];exact (below_size (by repeat (first|(with_reducible first|exact HB.out|apply zl1|apply zl2|apply zl3)|exact HB.out))) : w.heap.size ≤ gb354));replace HB:=Aside0.mk (below_step (by repeat (first|(with_reducible first|exact HB.out|apply zl1|apply zl2|apply zl3)|exact HB.out)) hb);clear hb hbox hg)|((with_reducible refine gate_dst (N:=18) rfl ?_);refine box_event ?hg (N:=18) ?hd (cs:=#[.string a0,.int .i64 0,.int .i64 0]) (t:=51) ?hr ?_;(case hd => rfl);(case hg => rfl);(case hr => first|(go_simp;done)|(go_simp;rfl));intro gb355 hg w6 hbox hb;have HI355:=Aside0.mk ((show IsS51 w _ gb355 a0 0 0 from ⟨hbox,(by rw [hg];exact (below_size (by repeat (first|(with_reducible first|exact HB.out|apply zl1|apply zl2|apply zl3|refine below_set ?_ GE354.out)|exact HB.out))) : w.heap.size ≤ gb355)⟩));have GW355:=Aside0.mk ((by rw [hg];exact (below_size (by repeat (first|(with_reducible first|exact HB.out|apply zl1|apply zl2|apply zl3|refine below_set ?_ GE354.out)|exact HB.out))) : w.heap.size ≤ gb355));have GE355:=Aside0.mk ((by rw [hg];exact (below_size (by repeat (first|(with_reducible first|exact HB.out|apply zl1|apply zl2|apply zl3|refine below_set ?_ GE354.out)|exact HB.out))) : w.heap.size ≤ gb355));replace HB:=Aside0.mk (below_step (by repeat (first|(with_reducible first|exact HB.out|apply zl1|apply zl2|apply zl3|refine below_set ?_ GE354.out)|exact HB.out)) hb);have NB354_355:=Aside0.mk ((by rw [hg];exact Nat.ne_of_lt (blk_lt (g:=gb354) (o:=.cells #[.bool false,.slice none 0 0,.slice none 0 0,.slice none 0 0] 27 (0,0)) (by (with_reducible repeat (first|apply zb1|apply zb2|apply zb3));exact BK354.out)) : gb354 ≠ gb355));have NB355_354:=Aside0.mk ((by rw [hg];exact Nat.ne_of_gt (blk_lt (g:=gb354) (o:=.cells #[.bool false,.slice none 0 0,.slice none 0 0,.slice none 0 0] 27 (0,0)) (by (with_reducible repeat (first|apply zb1|apply zb2|apply zb3));exact BK354.out)) : gb355 ≠ gb354));replace BK354:=Aside0.mk (blk_below (g:=gb354) (o:=.cells #[.bool false,.slice none 0 0,.slice none 0 0,.slice none 0 0] 27 (0,0)) (by (with_reducible repeat (first|apply zb1|apply zb2|apply zb3));exact BK354.out) hb);clear hb hbox hg)|((with_reducible refine gate_callee (f:=20) rfl ?_);refine goesL_ (some 20) rfl rfl Tryd.func20 (by kernel_rfl) rfl #[.pointer (some ⟨gb355,0,none⟩),.int .i64 1] rfl (by (try simp only [List.map_toArray,List.map_cons,List.map_nil]);first|done|rfl|(simp only [List.length_drop,List.length_take];rfl)|(simp (disch:=omega) only [u64_in];rfl)) ?_;(with_reducible refine (factotumref01_Reader_Num.calls k gb355 a0 0 0 1 t356 t357 t358 t359 w _ ?side1 ?side2 A2.out).mono ?_);(case side1 => repeat (first|(with_reducible first|exact HI355.out|apply IsS51.alloc|apply IsS51.drewN|apply IsS51.drew|apply IsS51.set_0|apply IsS51.set_1|apply IsS51.set_2|refine IsS51.far ?_ NB355_354.out _)|exact HI355.out));(case side2 => repeat (first|(with_reducible first|exact HB.out|apply zl1|apply zl2|apply zl3|refine below_set ?_ (IsS51.ge HI355.out)|refine below_set ?_ GE354.out)|exact HB.out));rintro e w7 ⟨rfl,hi,hb,hk⟩;refine ⟨_,rfl,?_⟩;replace BK354:=Aside0.mk (KeepBut.blk hk (g':=gb354) (o:=.cells #[.bool false,.slice none 0 0,.slice none 0 0,.slice none 0 0] 27 (0,0)) (by (with_reducible repeat (first|apply zb1|apply zb2|apply zb3));exact BK354.out) NB354_355.out (by simp));replace HB:=Aside0.mk (hb);replace HI355:=Aside0.mk (hi);(try clear hb);(try clear hk);(try clear hi))|((with_reducible refine gate_callee (f:=20) rfl ?_);refine goesL_ (some 22) rfl rfl Tryd.func20 (by kernel_rfl) rfl #[.pointer (some ⟨gb355,0,none⟩),.int .i64 1] rfl (by (try simp only [List.map_toArray,List.map_cons,List.map_nil]);first|done|rfl|(simp only [List.length_drop,List.length_take];rfl)|(simp (disch:=omega) only [u64_in];rfl)) ?_;(with_reducible refine (factotumref01_Reader_Num.calls k gb355 t357 t358 t359 1 t360 t361 t362 t363 w _ ?side1 ?side2 A3.out).mono ?_);(case side1 => repeat (first|(with_reducible first|exact HI355.out|apply IsS51.alloc|apply IsS51.drewN|apply IsS51.drew|apply IsS51.set_0|apply IsS51.set_1|apply IsS51.set_2|refine IsS51.far ?_ NB355_354.out _)|exact HI355.out));(case side2 => repeat (first|(with_reducible first|exact HB.out|apply zl1|apply zl2|apply zl3|refine below_set ?_ (IsS51.ge HI355.out)|refine below_set ?_ GE354.out)|exact HB.out));rintro e w8 ⟨rfl,hi,hb,hk⟩;refine ⟨_,rfl,?_⟩;replace BK354:=Aside0.mk (KeepBut.blk hk (g':=gb354) (o:=.cells #[.bool false,.slice none 0 0,.slice none 0 0,.slice none 0 0] 27 (0,0)) (by (with_reducible repeat (first|apply zb1|apply zb2|apply zb3));exact BK354.out) NB354_355.out (by simp));replace HB:=Aside0.mk (hb);replace HI355:=Aside0.mk (hi);(try clear hb);(try clear hk);(try clear hi))|((with_reducible refine gate_dst (N:=7) rfl ?_);refine box_event ?hg (N:=7) ?hd (cs:=#[.bool false,.slice none 0 0,.slice none 0 0,.slice none 0 0]) (t:=27) ?hr ?_;(case hd => rfl);(case hg => rfl);(case hr => first|(go_simp;done)|(go_simp;rfl));intro gb364 hg w9 hbox hb;have BK364:=Aside0.mk (hbox);have GW364:=Aside0.mk ((by rw [hg];exact (below_size (by repeat (first|(with_reducible first|exact HB.out|apply zl1|apply zl2|apply zl3|refine below_set ?_ (IsS51.ge HI355.out)|refine below_set ?_ GE354.out)|exact HB.out))) : w.heap.size ≤ gb364));have GE364:=Aside0.mk ((by rw [hg];exact (below_size (by repeat (first|(with_reducible first|exact HB.out|apply zl1|apply zl2|apply zl3|refine below_set ?_ (IsS51.ge HI355.out)|refine below_set ?_ GE354.out)|exact HB.out))) : w.heap.size ≤ gb364));replace HB:=Aside0.mk (below_step (by repeat (first|(with_reducible first|exact HB.out|apply zl1|apply zl2|apply zl3|refine below_set ?_ (IsS51.ge HI355.out)|refine below_set ?_ GE354.out)|exact HB.out)) hb);have NB354_364:=Aside0.mk ((by rw [hg];exact Nat.ne_of_lt (blk_lt (g:=gb354) (o:=.cells #[.bool false,.slice none 0 0,.slice none 0 0,.slice none 0 0] 27 (0,0)) (by (with_reducible repeat (first|apply zb1|apply zb2|apply zb3));exact BK354.out)) : gb354 ≠ gb364));have NB364_354:=Aside0.mk ((by rw [hg];exact Nat.ne_of_gt (blk_lt (g:=gb354) (o:=.cells #[.bool false,.slice none 0 0,.slice none 0 0,.slice none 0 0] 27 (0,0)) (by (with_reducible repeat (first|apply zb1|apply zb2|apply zb3));exact BK354.out)) : gb364 ≠ gb354));replace BK354:=Aside0.mk (blk_below (g:=gb354) (o:=.cells #[.bool false,.slice none 0 0,.slice none 0 0,.slice none 0 0] 27 (0,0)) (by (with_reducible repeat (first|apply zb1|apply zb2|apply zb3));exact BK354.out) hb);have NB355_364:=Aside0.mk ((by rw [hg];exact Nat.ne_of_lt (IsS51.lt (show IsS51 w _ gb355 t361 t362 t363 from by repeat (first|(with_reducible first|exact HI355.out|apply IsS51.alloc|apply IsS51.drewN|apply IsS51.drew|apply IsS51.set_0|apply IsS51.set_1|apply IsS51.set_2|refine IsS51.far ?_ NB355_354.out _)|exact HI355.out))) : gb355 ≠ gb364));have NB364_355:=Aside0.mk ((by rw [hg];exact Nat.ne_of_gt (IsS51.lt (show IsS51 w _ gb355 t361 t362 t363 from by repeat (first|(with_reducible first|exact HI355.out|apply IsS51.alloc|apply IsS51.drewN|apply IsS51.drew|apply IsS51.set_0|apply IsS51.set_1|apply IsS51.set_2|refine IsS51.far ?_ NB355_354.out _)|exact HI355.out))) : gb364 ≠ gb355));replace HI355:=Aside0.mk (IsS51.below (by repeat (first|(with_reducible first|exact HI355.out|apply IsS51.alloc|apply IsS51.drewN|apply IsS51.drew|apply IsS51.set_0|apply IsS51.set_1|apply IsS51.set_2|refine IsS51.far ?_ NB355_354.out _)|exact HI355.out)) hb);clear hb hbox hg))
 (try simp only [Act.put,List.setIfInBounds_toArray,List.set_cons_zero,List.set_cons_succ])
 go_cut [] (fun wc => ∃ (kq : Nat) (x356000_3 : ByteArray) (x356001_3 : Int) (x356002_3 : Int) (x365000_3 : Bool) (x365001_3 : List (S44)) (x365002_3 : List ByteArray) (x365003_3 : List Int) (u365001 : Value) (u365002 : Value) (u365003 : Value),Aside0 (factotumref09_Read.j4 kq a0 x356000_3 x356001_3 x356002_3 x365000_3 x365001_3 x365002_3 x365003_3 = some (r1,r2,r3,r4,r5))∧Aside0 (kq ≤ k)∧Aside0 (Kd.R k44 44 wc w.heap.size (fun _ => True) u365001 x365001_3)∧Aside0 (Kd.R Kd.string 9 wc w.heap.size (fun _ => True) u365002 x365002_3)∧Aside0 (Kd.R (Kd.int .i64) 3 wc w.heap.size (fun _ => True) u365003 x365003_3)∧Aside0 (wc.heap[gb354]? = some (.cells #[.bool false,(.slice none 0 0),(.slice none 0 0),(.slice none 0 0)] 27 (0,0)))∧Aside0 (wc.heap[gb364]? = some (.cells #[.bool x365000_3,u365001,u365002,u365003] 27 (0,0)))∧Aside0 (IsS51 w wc gb355 x356000_3 x356001_3 x356002_3)∧Aside0 (Below w.heap.size w wc))
 case first =>
  have H:=HC4.out
  clear HC4
  by_cases c10 : t356 = 1
  ·rw [if_pos c10] at H
   have c10b0 : (t356 == 1) = true:=beq_iff_eq.mpr c10
   have c10b1 : (t356 != 1) = false:=bne_eq_false_iff_eq.mpr c10
   clear c10
   (first|rw [c10b0]|(simp only [i64_w,i32_w];rw [c10b0])|skip)
   have H':=Aside0.mk H
   clear H
   have hnb11:=NB364_354.out
   have hnc11:=NB354_364.out
   have hnb12:=NB364_355.out
   have hnc12:=NB355_364.out
   have hcz13_0 : w9.cell? ⟨gb364,0,none⟩ = some (.bool false):=(blk_cell BK364.out 0).trans rfl
   have hcz13_1 : w9.cell? ⟨gb364,1,none⟩ = some (.slice none 0 0):=(blk_cell BK364.out 1).trans rfl
   have hcz13_2 : w9.cell? ⟨gb364,2,none⟩ = some (.slice none 0 0):=(blk_cell BK364.out 2).trans rfl
   have hcz13_3 : w9.cell? ⟨gb364,3,none⟩ = some (.slice none 0 0):=(blk_cell BK364.out 3).trans rfl
   have hfz13_0:=blk_frozen BK364.out 0
   have hfz13_1:=blk_frozen BK364.out 1
   have hfz13_2:=blk_frozen BK364.out 2
   have hfz13_3:=blk_frozen BK364.out 3
   go_wp2
   go_loopg [8] k (fun kq v8 w' => ∃ (x8_1 : Int) (x356000_1 : ByteArray) (x356001_1 : Int) (x356002_1 : Int) (x365001_1 : List (S44)) (u365001 : Value),v8 = .int .u64 x8_1∧Aside0 (factotumref09_Read.l0 kq a0 t360 x8_1 x356000_1 x356001_1 x356002_1 true x365001_1 = some (r1,r2,r3,r4,r5))∧Aside0 (kq ≤ k)∧Aside0 (Kd.R k44 44 w' w.heap.size (fun _ => True) u365001 x365001_1)∧Aside0 (w'.heap[gb354]? = some (.cells #[.bool false,(.slice none 0 0),(.slice none 0 0),(.slice none 0 0)] 27 (0,0)))∧Aside0 (w'.heap[gb364]? = some (.cells #[.bool true,u365001,(.slice none 0 0),(.slice none 0 0)] 27 (0,0)))∧Aside0 (IsS51 w w' gb355 x356000_1 x356001_1 x356002_1)∧Aside0 (Below w.heap.size w w'))
   case atStart => exact ⟨(0),(t361),(t362),(t363),(([] : List (S44))),(.slice none 0 0),(by first|(with_reducible rfl)|(simp;done)|(simp [*];done)|rfl|(simp only [not_isEmpty_bne])),H',⟨Nat.le_refl _⟩,⟨by first|exact Kd.R_nil _ _ _ _ _|exact Kd.N_nil _ _ _ _ _|exact Kd.V_nil _ _ _ _ _|exact Kd.Q_nil _ _ _ _ _|exact Kd.S_nil _ _ _ _ _⟩,⟨by (with_reducible repeat (first|apply zb1|apply zb2|apply zb3));refine blk_far ?_ NB354_364.out _;(with_reducible repeat (first|apply zb1|apply zb2|apply zb3));exact BK354.out⟩,⟨by (with_reducible repeat (first|apply zb1|apply zb2|apply zb3));refine blk_put (cs:=#[.bool false,.slice none 0 0,.slice none 0 0,.slice none 0 0]) ?_ 0 _ rfl;(with_reducible repeat (first|apply zb1|apply zb2|apply zb3));exact BK364.out⟩,⟨by repeat (first|(with_reducible first|exact HI355.out|apply IsS51.alloc|apply IsS51.drewN|apply IsS51.drew|apply IsS51.set_0|apply IsS51.set_1|apply IsS51.set_2|refine IsS51.far ?_ NB355_354.out _|refine IsS51.far ?_ NB355_364.out _)|exact HI355.out)⟩,⟨by repeat (first|(with_reducible first|exact HB.out|apply zl1|apply zl2|apply zl3|refine below_set ?_ (IsS51.ge HI355.out)|refine below_set ?_ GE354.out|refine below_set ?_ GE364.out)|exact HB.out)⟩⟩
   case round =>
    clear H'
    try clear hfz13_0 hfz13_1 hfz13_2 hfz13_3
    try clear hcz13_0 hcz13_1 hcz13_2 hcz13_3
    try clear c1
    try clear c2
    try clear p2
    try clear p6
    try clear c7
    try clear c10
    try clear c10b0
    try clear c10b1
    try clear c11
    try clear c12
    obtain ⟨x8_1,x356000_1,x356001_1,x356002_1,x365001_1,u365001,rfl,HA,HK1,HO_365001,BK354,BK364,HI355,HB⟩:=hrel
    cases gk with
    | zero => exact absurd HA.out (by simp [factotumref09_Read.l0])
    | succ k1 =>
     have H:=HA.out
     clear HA
     simp only [factotumref09_Read.l0] at H
     have HC14:=Aside0.mk H
     clear H
     go_upto_region 8 with (fail)
     go_cut [35] (fun v35 wc => ∃ (kq : Nat) (x35_13 : Bool),v35 = .bool x35_13∧Aside0 (factotumref09_Read.j1 kq a0 t360 x8_1 x35_13 x356000_1 x356001_1 x356002_1 true x365001_1 = some (r1,r2,r3,r4,r5))∧Aside0 (kq ≤ k1)∧Aside0 (Kd.R k44 44 wc w.heap.size (fun _ => True) u365001 x365001_1)∧Aside0 (wc.heap[gb354]? = some (.cells #[.bool false,(.slice none 0 0),(.slice none 0 0),(.slice none 0 0)] 27 (0,0)))∧Aside0 (wc.heap[gb364]? = some (.cells #[.bool true,u365001,(.slice none 0 0),(.slice none 0 0)] 27 (0,0)))∧Aside0 (IsS51 w wc gb355 x356000_1 x356001_1 x356002_1)∧Aside0 (Below w.heap.size w wc))
     case first =>
      have H:=HC14.out
      clear HC14
      by_cases c15 : x8_1 < t360
      ·rw [if_pos c15] at H
       have c15b0 : decide (x8_1 < t360) = true:=decide_eq_true c15
       clear c15
       (first|rw [c15b0]|(simp only [i64_w,i32_w];rw [c15b0])|skip)
       have H':=Aside0.mk H
       clear H
       obtain ⟨HGz16,hgz16⟩:=HI355.out
       have hcz16_0:=cellS51_0 HGz16
       have hcz16_1:=cellS51_1 HGz16
       have hcz16_2:=cellS51_2 HGz16
       have hfz16_0:=blk_frozen HGz16 0
       have hfz16_1:=blk_frozen HGz16 1
       have hfz16_2:=blk_frozen HGz16 2
       clear HGz16 hgz16
       go_wp2
       go_meet
       case rel => exact ⟨_,((x356002_1 == 0)),(by first|(with_reducible rfl)|(simp;done)|(simp [*];done)|rfl|(simp only [not_isEmpty_bne])),H',⟨by have:=HK1.out;first|omega|exact Nat.le_refl _⟩,⟨by (with_reducible repeat (first|apply zk1|apply zk2|apply zk3));exact HO_365001.out⟩,⟨by (with_reducible repeat (first|apply zb1|apply zb2|apply zb3));exact BK354.out⟩,⟨by (with_reducible repeat (first|apply zb1|apply zb2|apply zb3));exact BK364.out⟩,⟨by repeat (first|(with_reducible first|exact HI355.out|apply IsS51.alloc|apply IsS51.drewN|apply IsS51.drew|apply IsS51.set_0|apply IsS51.set_1|apply IsS51.set_2|refine IsS51.far ?_ NB355_354.out _|refine IsS51.far ?_ NB355_364.out _)|exact HI355.out)⟩,⟨by repeat (first|(with_reducible first|exact HB.out|apply zl1|apply zl2|apply zl3|refine below_set ?_ (IsS51.ge HI355.out)|refine below_set ?_ GE354.out|refine below_set ?_ GE364.out)|exact HB.out)⟩⟩
      ·rw [if_neg c15] at H
       have c15b0 : decide (x8_1 < t360) = false:=decide_eq_false c15
       clear c15
       (first|rw [c15b0]|(simp only [i64_w,i32_w];rw [c15b0])|skip)
       have H':=Aside0.mk H
       clear H
       go_wp2
       go_meet
       case rel => exact ⟨_,(false),(by first|(with_reducible rfl)|(simp;done)|(simp [*];done)|rfl|(simp only [not_isEmpty_bne])),H',⟨by have:=HK1.out;first|omega|exact Nat.le_refl _⟩,⟨by (with_reducible repeat (first|apply zk1|apply zk2|apply zk3));exact HO_365001.out⟩,⟨by (with_reducible repeat (first|apply zb1|apply zb2|apply zb3));exact BK354.out⟩,⟨by (with_reducible repeat (first|apply zb1|apply zb2|apply zb3));exact BK364.out⟩,⟨by repeat (first|(with_reducible first|exact HI355.out|apply IsS51.alloc|apply IsS51.drewN|apply IsS51.drew|apply IsS51.set_0|apply IsS51.set_1|apply IsS51.set_2|refine IsS51.far ?_ NB355_354.out _|refine IsS51.far ?_ NB355_364.out _)|exact HI355.out)⟩,⟨by repeat (first|(with_reducible first|exact HB.out|apply zl1|apply zl2|apply zl3|refine below_set ?_ (IsS51.ge HI355.out)|refine below_set ?_ GE354.out|refine below_set ?_ GE364.out)|exact HB.out)⟩⟩
     case rest =>
      clear HC14
      try clear hfz13_0 hfz13_1 hfz13_2 hfz13_3 hfz16_0 hfz16_1 hfz16_2
      try clear hcz13_0 hcz13_1 hcz13_2 hcz13_3 hcz16_0 hcz16_1 hcz16_2
      try clear c1
      try clear c2
      try clear p2
      try clear p6
      try clear c7
      try clear c10
      try clear c10b0
      try clear c10b1
      try clear c11
      try clear c12
      try clear c15
      try clear c15b0
      try clear p2
      try clear p6
      obtain ⟨kq,x35_13,rfl,HA,HJ13,HO_365001,BK354,BK364,HI355,HB⟩:=hcut
      cases kq with
      | zero => exact absurd HA.out (by simp [factotumref09_Read.j1])
      | succ kj13 =>
       have H:=HA.out
       clear HA
       simp only [factotumref09_Read.j1] at H
       by_cases c17 : x35_13 = true
       ·subst c17
        have H1 : ((factotumref01_Reader_Str.f x356000_1 x356001_1 x356002_1 255).bind fun bt365 => ((factotumref01_Reader_Str.f bt365.2.1 bt365.2.2.1 bt365.2.2.2 255).bind fun bt369 => (if x365001_1.length < 4398046511104 then (factotumref09_Read.l0 kj13 a0 t360 (IntKind.u64.wrap (x8_1 + 1)) bt369.2.1 bt369.2.2.1 bt369.2.2.2 true (x365001_1 ++ [(⟨bt365.1,bt369.1⟩ : S44)])) else (none)))) = some (r1,r2,r3,r4,r5):=by rw [if_pos rfl] at H;exact H
        clear H
        have H:=H1
        clear H1
        replace H:=Option.bind_eq_some_iff.mp H
        obtain ⟨⟨t365,t366,t367,t368⟩,A180,H⟩:=H
        replace H : ((factotumref01_Reader_Str.f t366 t367 t368 255).bind fun bt369 => (if x365001_1.length < 4398046511104 then (factotumref09_Read.l0 kj13 a0 t360 (IntKind.u64.wrap (x8_1 + 1)) bt369.2.1 bt369.2.2.1 bt369.2.2.2 true (x365001_1 ++ [(⟨t365,bt369.1⟩ : S44)])) else (none))) = some (r1,r2,r3,r4,r5):=H
        have A18:=Aside0.mk A180
        clear A180
        replace H:=Option.bind_eq_some_iff.mp H
        obtain ⟨⟨t369,t370,t371,t372⟩,A190,H⟩:=H
        replace H : (if x365001_1.length < 4398046511104 then (factotumref09_Read.l0 kj13 a0 t360 (IntKind.u64.wrap (x8_1 + 1)) t370 t371 t372 true (x365001_1 ++ [(⟨t365,t369⟩ : S44)])) else (none)) = some (r1,r2,r3,r4,r5):=H
        have A19:=Aside0.mk A190
        clear A190
        by_cases c20 : x365001_1.length < 4398046511104
        ·rw [if_pos c20] at H
         have LMc20:=Aside0.mk c20
         clear c20
         obtain ⟨y373,hy373⟩ : ∃ y_ : List (S44),y_ = (x365001_1 ++ [(⟨t365,t369⟩ : S44)]):=⟨_,rfl⟩
         replace H : (factotumref09_Read.l0 kj13 a0 t360 (IntKind.u64.wrap (x8_1 + 1)) t370 t371 t372 true y373) = some (r1,r2,r3,r4,r5):=by first|(rw [hy373];with_reducible exact H)|(have H2_:=(Option.bind_some _ _).symm.trans H;rw [hy373];with_reducible exact H2_)|(have H2_:=(Option.bind_some _ _).symm.trans H;with_reducible exact H2_)|with_reducible exact H|(rw [hy373];exact H)|exact H
         have Ny373:=Aside0.mk hy373
         clear hy373
         have H':=Aside0.mk H
         clear H
         go_wp2_with (first|((with_reducible refine gate_callee (f:=21) rfl ?_);refine goesL_ (some 39) rfl rfl Tryd.func21 (by kernel_rfl) rfl #[.pointer (some ⟨gb355,0,none⟩),.int .i64 255] rfl (by (try simp only [List.map_toArray,List.map_cons,List.map_nil]);first|done|rfl|(simp only [List.length_drop,List.length_take];rfl)|(simp (disch:=omega) only [u64_in];rfl)) ?_;(with_reducible refine (factotumref01_Reader_Str.calls gb355 x356000_1 x356001_1 x356002_1 255 t365 t366 t367 t368 w _ ?side1 ?side2 A18.out).mono ?_);(case side1 => repeat (first|(with_reducible first|exact HI355.out|apply IsS51.alloc|apply IsS51.drewN|apply IsS51.drew|apply IsS51.set_0|apply IsS51.set_1|apply IsS51.set_2|refine IsS51.far ?_ NB355_354.out _|refine IsS51.far ?_ NB355_364.out _)|exact HI355.out));(case side2 => repeat (first|(with_reducible first|exact HB.out|apply zl1|apply zl2|apply zl3|refine below_set ?_ (IsS51.ge HI355.out)|refine below_set ?_ GE354.out|refine below_set ?_ GE364.out)|exact HB.out));rintro e w21 ⟨rfl,hi,hb,hk⟩;refine ⟨_,rfl,?_⟩;replace HO_365001:=Aside0.mk (Kd.R_mono (Kd.R_keep (IsS51.apart (show IsS51 w _ gb355 x356000_1 x356001_1 x356002_1 from by repeat (first|(with_reducible first|exact HI355.out|apply IsS51.alloc|apply IsS51.drewN|apply IsS51.drew|apply IsS51.set_0|apply IsS51.set_1|apply IsS51.set_2|refine IsS51.far ?_ NB355_354.out _|refine IsS51.far ?_ NB355_364.out _)|exact HI355.out)) (by (with_reducible repeat (first|apply zk1|apply zk2|apply zk3));exact HO_365001.out) (by decide)) hk (fun _ h => h.2)) (fun _ h => h.1));replace BK354:=Aside0.mk (KeepBut.blk hk (g':=gb354) (o:=.cells #[.bool false,.slice none 0 0,.slice none 0 0,.slice none 0 0] 27 (0,0)) (by (with_reducible repeat (first|apply zb1|apply zb2|apply zb3));exact BK354.out) NB354_355.out (by simp));replace BK364:=Aside0.mk (KeepBut.blk hk (g':=gb364) (o:=.cells #[.bool true,u365001,.slice none 0 0,.slice none 0 0] 27 (0,0)) (by (with_reducible repeat (first|apply zb1|apply zb2|apply zb3));exact BK364.out) NB364_355.out (by simp));replace HB:=Aside0.mk (hb);replace HI355:=Aside0.mk (hi);(try clear hb);(try clear hk);(try clear hi))|((with_reducible refine gate_callee (f:=21) rfl ?_);refine goesL_ (some 41) rfl rfl Tryd.func21 (by kernel_rfl) rfl #[.pointer (some ⟨gb355,0,none⟩),.int .i64 255] rfl (by (try simp only [List.map_toArray,List.map_cons,List.map_nil]);first|done|rfl|(simp only [List.length_drop,List.length_take];rfl)|(simp (disch:=omega) only [u64_in];rfl)) ?_;(with_reducible refine (factotumref01_Reader_Str.calls gb355 t366 t367 t368 255 t369 t370 t371 t372 w _ ?side1 ?side2 A19.out).mono ?_);(case side1 => repeat (first|(with_reducible first|exact HI355.out|apply IsS51.alloc|apply IsS51.drewN|apply IsS51.drew|apply IsS51.set_0|apply IsS51.set_1|apply IsS51.set_2|refine IsS51.far ?_ NB355_354.out _|refine IsS51.far ?_ NB355_364.out _)|exact HI355.out));(case side2 => repeat (first|(with_reducible first|exact HB.out|apply zl1|apply zl2|apply zl3|refine below_set ?_ (IsS51.ge HI355.out)|refine below_set ?_ GE354.out|refine below_set ?_ GE364.out)|exact HB.out));rintro e w22 ⟨rfl,hi,hb,hk⟩;refine ⟨_,rfl,?_⟩;replace HO_365001:=Aside0.mk (Kd.R_mono (Kd.R_keep (IsS51.apart (show IsS51 w _ gb355 t366 t367 t368 from by repeat (first|(with_reducible first|exact HI355.out|apply IsS51.alloc|apply IsS51.drewN|apply IsS51.drew|apply IsS51.set_0|apply IsS51.set_1|apply IsS51.set_2|refine IsS51.far ?_ NB355_354.out _|refine IsS51.far ?_ NB355_364.out _)|exact HI355.out)) (by (with_reducible repeat (first|apply zk1|apply zk2|apply zk3));exact HO_365001.out) (by decide)) hk (fun _ h => h.2)) (fun _ h => h.1));replace BK354:=Aside0.mk (KeepBut.blk hk (g':=gb354) (o:=.cells #[.bool false,.slice none 0 0,.slice none 0 0,.slice none 0 0] 27 (0,0)) (by (with_reducible repeat (first|apply zb1|apply zb2|apply zb3));exact BK354.out) NB354_355.out (by simp));replace BK364:=Aside0.mk (KeepBut.blk hk (g':=gb364) (o:=.cells #[.bool true,u365001,.slice none 0 0,.slice none 0 0] 27 (0,0)) (by (with_reducible repeat (first|apply zb1|apply zb2|apply zb3));exact BK364.out) NB364_355.out (by simp));replace HB:=Aside0.mk (hb);replace HI355:=Aside0.mk (hi);(try clear hb);(try clear hk);(try clear hi);have hnb23:=NB364_354.out;have hnc23:=NB354_364.out;have hnb24:=NB364_355.out;have hnc24:=NB355_364.out;have hcz25_0 : w22.cell? ⟨gb364,0,none⟩ = some (.bool true):=(blk_cell BK364.out 0).trans rfl;have hcz25_1 : w22.cell? ⟨gb364,1,none⟩ = some (u365001):=(blk_cell BK364.out 1).trans rfl;have hcz25_2 : w22.cell? ⟨gb364,2,none⟩ = some (.slice none 0 0):=(blk_cell BK364.out 2).trans rfl;have hcz25_3 : w22.cell? ⟨gb364,3,none⟩ = some (.slice none 0 0):=(blk_cell BK364.out 3).trans rfl;have hfz25_0:=blk_frozen BK364.out 0;have hfz25_1:=blk_frozen BK364.out 1;have hfz25_2:=blk_frozen BK364.out 2;have hfz25_3:=blk_frozen BK364.out 3)|((with_reducible refine gate_builtin (b:=.append) (xs:=#[.tmp 43,.tmp 47]) rfl ?_);at_builtin;refine Kd.R_append k44 (w0:=w) w.heap.size rfl (.tmp 43) (.tmp 47) 23 44 (.agg #[(.string ⟨#[]⟩),(.string ⟨#[]⟩)]) 32 rfl Tryd.underlying23 info44 rfl (by decide) (by omega) u365001 x365001_1 (⟨t365,t369⟩ : S44) [.string t365,.string t369] (fun _ => True) (fun _ => False) rfl rfl ?aP (fun _ hk => hk.elim) ?aF ?aO ?aB ?aS ?aL ?_;(case aP => exact k44_mkM _ _ _ (⟨t365,t369⟩ : S44));(case aB => exact (by repeat (first|(with_reducible first|exact HB.out|apply zl1|apply zl2|apply zl3|refine below_set ?_ (IsS51.ge HI355.out)|refine below_set ?_ GE354.out|refine below_set ?_ GE364.out)|exact HB.out)));(case aF => exact (fun _ _ => trivial));(case aO => exact (by (with_reducible repeat (first|apply zk1|apply zk2|apply zk3));exact HO_365001.out));(case aS => exact (below_size (by repeat (first|(with_reducible first|exact HB.out|apply zl1|apply zl2|apply zl3|refine below_set ?_ (IsS51.ge HI355.out)|refine below_set ?_ GE354.out|refine below_set ?_ GE364.out)|exact HB.out))));(case aL => have:=LMc20.out;omega);intro v374 w26 ho hb hg hat;rw [← Ny373.out] at ho;have n0_:=Aside0.mk (blk_grown (g:=gb354) (o:=.cells #[.bool false,.slice none 0 0,.slice none 0 0,.slice none 0 0] 27 (0,0)) (by (with_reducible repeat (first|apply zb1|apply zb2|apply zb3));exact BK354.out) hg (Kd.R_ne HO_365001.out BK354.out (by decide)));have n1_:=Aside0.mk (blk_grown (g:=gb364) (o:=.cells #[.bool true,u365001,.slice none 0 0,.slice none 0 0] 27 (0,0)) (by (with_reducible repeat (first|apply zb1|apply zb2|apply zb3));exact BK364.out) hg (Kd.R_ne HO_365001.out BK364.out (by decide)));have n2_:=Aside0.mk (IsS51.grown (show IsS51 w _ gb355 t370 t371 t372 from by repeat (first|(with_reducible first|exact HI355.out|apply IsS51.alloc|apply IsS51.drewN|apply IsS51.drew|apply IsS51.set_0|apply IsS51.set_1|apply IsS51.set_2|refine IsS51.far ?_ NB355_354.out _|refine IsS51.far ?_ NB355_364.out _)|exact HI355.out)) hg (IsS51.own_ne HI355.out HO_365001.out (by decide)));have n3_:=Aside0.mk (hb);have n4_:=Aside0.mk (ho);clear BK354;clear BK364;clear HI355;clear HB;clear HO_365001;have BK354:=n0_;have BK364:=n1_;have HI355:=n2_;have HB:=n3_;have HO375:=n4_;clear n0_ n1_ n2_ n3_ n4_;clear ho hb hg hat;obtain ⟨Ao27,co27,eo27⟩:=Kd.R_slice HO375.out;subst eo27;have hcz28_0 : w26.cell? ⟨gb364,0,none⟩ = some (.bool true):=(blk_cell BK364.out 0).trans rfl;have hcz28_1 : w26.cell? ⟨gb364,1,none⟩ = some (u365001):=(blk_cell BK364.out 1).trans rfl;have hcz28_2 : w26.cell? ⟨gb364,2,none⟩ = some (.slice none 0 0):=(blk_cell BK364.out 2).trans rfl;have hcz28_3 : w26.cell? ⟨gb364,3,none⟩ = some (.slice none 0 0):=(blk_cell BK364.out 3).trans rfl;have hfz28_0:=blk_frozen BK364.out 0;have hfz28_1:=blk_frozen BK364.out 1;have hfz28_2:=blk_frozen BK364.out 2;have hfz28_3:=blk_frozen BK364.out 3))
         go_roundg kj13
         case measure => have:=HK1.out;have:=HJ13.out;omega
         case rel => exact ⟨(IntKind.u64.wrap (x8_1 + 1)),(t370),(t371),(t372),(y373),(.slice Ao27 y373.length co27),(by first|(with_reducible rfl)|(simp;done)|(simp [*];done)|rfl|(simp only [not_isEmpty_bne])),H',⟨by have:=HK1.out;have:=HJ13.out;omega⟩,⟨by (with_reducible repeat (first|apply zk1|apply zk2|apply zk3));exact Kd.R_mono (Kd.R_far (p:=⟨gb364,1,none⟩) (Kd.R_types HO375.out BK364.out (by decide)) (fun _ hk => hk.2) (.slice Ao27 y373.length co27)) (fun _ hk => trivial)⟩,⟨by (with_reducible repeat (first|apply zb1|apply zb2|apply zb3));refine blk_far ?_ NB354_364.out _;(with_reducible repeat (first|apply zb1|apply zb2|apply zb3));exact BK354.out⟩,⟨by (with_reducible repeat (first|apply zb1|apply zb2|apply zb3));refine blk_put (cs:=#[.bool true,u365001,.slice none 0 0,.slice none 0 0]) ?_ 1 _ rfl;(with_reducible repeat (first|apply zb1|apply zb2|apply zb3));exact BK364.out⟩,⟨by repeat (first|(with_reducible first|exact HI355.out|apply IsS51.alloc|apply IsS51.drewN|apply IsS51.drew|apply IsS51.set_0|apply IsS51.set_1|apply IsS51.set_2|refine IsS51.far ?_ NB355_354.out _|refine IsS51.far ?_ NB355_364.out _)|exact HI355.out)⟩,⟨by repeat (first|(with_reducible first|exact HB.out|apply zl1|apply zl2|apply zl3|refine below_set ?_ (IsS51.ge HI355.out)|refine below_set ?_ GE354.out|refine below_set ?_ GE364.out)|exact HB.out)⟩⟩
        ·rw [if_neg c20] at H
         exact absurd H (by simp)
       ·replace c17:=Bool.eq_false_iff.mpr c17
        subst c17
        have H1 : (factotumref09_Read.j4 kj13 a0 x356000_1 x356001_1 x356002_1 true x365001_1 ([] : List ByteArray) ([] : List Int)) = some (r1,r2,r3,r4,r5):=by rw [if_neg (show ¬ (false = true) by decide)] at H;exact H
        clear H
        have H:=H1
        clear H1
        have H':=Aside0.mk H
        clear H
        go_wp2
        go_meet
        case rel => exact ⟨_,(x356000_1),(x356001_1),(x356002_1),(true),(x365001_1),(([] : List ByteArray)),(([] : List Int)),(u365001),(.slice none 0 0),(.slice none 0 0),H',⟨by have:=HK1.out;have:=HJ13.out;first|omega|exact Nat.le_refl _⟩,⟨by (with_reducible repeat (first|apply zk1|apply zk2|apply zk3));exact HO_365001.out⟩,⟨by first|exact Kd.R_nil _ _ _ _ _|exact Kd.N_nil _ _ _ _ _|exact Kd.V_nil _ _ _ _ _|exact Kd.Q_nil _ _ _ _ _|exact Kd.S_nil _ _ _ _ _⟩,⟨by first|exact Kd.R_nil _ _ _ _ _|exact Kd.N_nil _ _ _ _ _|exact Kd.V_nil _ _ _ _ _|exact Kd.Q_nil _ _ _ _ _|exact Kd.S_nil _ _ _ _ _⟩,⟨by (with_reducible repeat (first|apply zb1|apply zb2|apply zb3));exact BK354.out⟩,⟨by (with_reducible repeat (first|apply zb1|apply zb2|apply zb3));exact BK364.out⟩,⟨by repeat (first|(with_reducible first|exact HI355.out|apply IsS51.alloc|apply IsS51.drewN|apply IsS51.drew|apply IsS51.set_0|apply IsS51.set_1|apply IsS51.set_2|refine IsS51.far ?_ NB355_354.out _|refine IsS51.far ?_ NB355_364.out _)|exact HI355.out)⟩,⟨by repeat (first|(with_reducible first|exact HB.out|apply zl1|apply zl2|apply zl3|refine below_set ?_ (IsS51.ge HI355.out)|refine below_set ?_ GE354.out|refine below_set ?_ GE364.out)|exact HB.out)⟩⟩
  ·rw [if_neg c10] at H
   have c10b0 : (t356 == 1) = false:=beq_eq_false_iff_ne.mpr c10
   have c10b1 : (t356 != 1) = true:=bne_iff_ne.mpr c10
   (first|rw [c10b0]|(simp only [i64_w,i32_w];rw [c10b0])|skip)
   replace H:=Option.bind_eq_some_iff.mp H
   obtain ⟨⟨t376,t377,t378,t379⟩,A290,H⟩:=H
   replace H : (if ([] : List Int).length < 17592186044416 then (factotumref09_Read.l1 k a0 t360 0 t377 t378 t379 false ([] : List ByteArray) (([] : List Int) ++ [wrap64 (t376)])) else (none)) = some (r1,r2,r3,r4,r5):=H
   have A29:=Aside0.mk A290
   clear A290
   by_cases c30 : ([] : List Int).length < 17592186044416
   ·rw [if_pos c30] at H
    have LMc30:=Aside0.mk c30
    clear c30
    obtain ⟨y380,hy380⟩ : ∃ y_ : List Int,y_ = (([] : List Int) ++ [wrap64 (t376)]):=⟨_,rfl⟩
    replace H : (factotumref09_Read.l1 k a0 t360 0 t377 t378 t379 false ([] : List ByteArray) y380) = some (r1,r2,r3,r4,r5):=by first|(rw [hy380];with_reducible exact H)|(have H2_:=(Option.bind_some _ _).symm.trans H;rw [hy380];with_reducible exact H2_)|(have H2_:=(Option.bind_some _ _).symm.trans H;with_reducible exact H2_)|with_reducible exact H|(rw [hy380];exact H)|exact H
    have Ny380:=Aside0.mk hy380
    clear hy380
    have H':=Aside0.mk H
    clear H
    go_wp2_with (first|((with_reducible refine gate_callee (f:=20) rfl ?_);refine goesL_ (some 51) rfl rfl Tryd.func20 (by kernel_rfl) rfl #[.pointer (some ⟨gb355,0,none⟩),.int .i64 2] rfl (by (try simp only [List.map_toArray,List.map_cons,List.map_nil]);first|done|rfl|(simp only [List.length_drop,List.length_take];rfl)|(simp (disch:=omega) only [u64_in];rfl)) ?_;(with_reducible refine (factotumref01_Reader_Num.calls k gb355 t361 t362 t363 2 t376 t377 t378 t379 w _ ?side1 ?side2 A29.out).mono ?_);(case side1 => repeat (first|(with_reducible first|exact HI355.out|apply IsS51.alloc|apply IsS51.drewN|apply IsS51.drew|apply IsS51.set_0|apply IsS51.set_1|apply IsS51.set_2|refine IsS51.far ?_ NB355_354.out _|refine IsS51.far ?_ NB355_364.out _)|exact HI355.out));(case side2 => repeat (first|(with_reducible first|exact HB.out|apply zl1|apply zl2|apply zl3|refine below_set ?_ (IsS51.ge HI355.out)|refine below_set ?_ GE354.out|refine below_set ?_ GE364.out)|exact HB.out));rintro e w31 ⟨rfl,hi,hb,hk⟩;refine ⟨_,rfl,?_⟩;replace BK354:=Aside0.mk (KeepBut.blk hk (g':=gb354) (o:=.cells #[.bool false,.slice none 0 0,.slice none 0 0,.slice none 0 0] 27 (0,0)) (by (with_reducible repeat (first|apply zb1|apply zb2|apply zb3));exact BK354.out) NB354_355.out (by simp));replace BK364:=Aside0.mk (KeepBut.blk hk (g':=gb364) (o:=.cells #[.bool false,.slice none 0 0,.slice none 0 0,.slice none 0 0] 27 (0,0)) (by (with_reducible repeat (first|apply zb1|apply zb2|apply zb3));exact BK364.out) NB364_355.out (by simp));replace HB:=Aside0.mk (hb);replace HI355:=Aside0.mk (hi);(try clear hb);(try clear hk);(try clear hi);have hnb32:=NB364_354.out;have hnc32:=NB354_364.out;have hnb33:=NB364_355.out;have hnc33:=NB355_364.out;have hcz34_0 : w31.cell? ⟨gb364,0,none⟩ = some (.bool false):=(blk_cell BK364.out 0).trans rfl;have hcz34_1 : w31.cell? ⟨gb364,1,none⟩ = some (.slice none 0 0):=(blk_cell BK364.out 1).trans rfl;have hcz34_2 : w31.cell? ⟨gb364,2,none⟩ = some (.slice none 0 0):=(blk_cell BK364.out 2).trans rfl;have hcz34_3 : w31.cell? ⟨gb364,3,none⟩ = some (.slice none 0 0):=(blk_cell BK364.out 3).trans rfl;have hfz34_0:=blk_frozen BK364.out 0;have hfz34_1:=blk_frozen BK364.out 1;have hfz34_2:=blk_frozen BK364.out 2;have hfz34_3:=blk_frozen BK364.out 3)|((with_reducible refine gate_builtin (b:=.append) (xs:=#[.tmp 53,.tmp 56]) rfl ?_);at_builtin;refine Kd.R_append (Kd.int .i64) (w0:=w) w.heap.size rfl (.tmp 53) (.tmp 56) 25 3 (.int .i64 0) 8 rfl Tryd.underlying25 info3 rfl (by decide) (by omega) (.slice none 0 0) ([] : List Int) (wrap64 (t376)) [.int .i64 (wrap64 (t376))] (fun _ => True) (fun _ => False) rfl rfl ?aP (fun _ hk => hk.elim) ?aF ?aO ?aB ?aS ?aL ?_;(case aP => exact rfl);(case aB => exact (by repeat (first|(with_reducible first|exact HB.out|apply zl1|apply zl2|apply zl3|refine below_set ?_ (IsS51.ge HI355.out)|refine below_set ?_ GE354.out|refine below_set ?_ GE364.out)|exact HB.out)));(case aF => exact (fun _ _ => trivial));(case aO => exact ((Kd.R_nil _ _ _ _ (fun _ => True))));(case aS => exact (below_size (by repeat (first|(with_reducible first|exact HB.out|apply zl1|apply zl2|apply zl3|refine below_set ?_ (IsS51.ge HI355.out)|refine below_set ?_ GE354.out|refine below_set ?_ GE364.out)|exact HB.out))));(case aL => have:=LMc30.out;omega);intro v381 w35 ho hb hg hat;rw [← Ny380.out] at ho;replace BK354:=Aside0.mk (blk_grown (g:=gb354) (o:=.cells #[.bool false,.slice none 0 0,.slice none 0 0,.slice none 0 0] 27 (0,0)) (by (with_reducible repeat (first|apply zb1|apply zb2|apply zb3));exact BK354.out) hg (by simp [Value.ownBlock]));replace HI355:=Aside0.mk (IsS51.grown (show IsS51 w _ gb355 t377 t378 t379 from by repeat (first|(with_reducible first|exact HI355.out|apply IsS51.alloc|apply IsS51.drewN|apply IsS51.drew|apply IsS51.set_0|apply IsS51.set_1|apply IsS51.set_2|refine IsS51.far ?_ NB355_354.out _|refine IsS51.far ?_ NB355_364.out _)|exact HI355.out)) hg (by simp [Value.ownBlock]));replace BK364:=Aside0.mk (blk_grown (g:=gb364) (o:=.cells #[.bool false,.slice none 0 0,.slice none 0 0,.slice none 0 0] 27 (0,0)) (by (with_reducible repeat (first|apply zb1|apply zb2|apply zb3));exact BK364.out) hg (by simp [Value.ownBlock]));replace HB:=Aside0.mk (hb);have HO382:=Aside0.mk (ho);clear ho hb hg hat;obtain ⟨Ao36,co36,eo36⟩:=Kd.R_slice HO382.out;subst eo36;have hcz37_0 : w35.cell? ⟨gb364,0,none⟩ = some (.bool false):=(blk_cell BK364.out 0).trans rfl;have hcz37_1 : w35.cell? ⟨gb364,1,none⟩ = some (.slice none 0 0):=(blk_cell BK364.out 1).trans rfl;have hcz37_2 : w35.cell? ⟨gb364,2,none⟩ = some (.slice none 0 0):=(blk_cell BK364.out 2).trans rfl;have hcz37_3 : w35.cell? ⟨gb364,3,none⟩ = some (.slice none 0 0):=(blk_cell BK364.out 3).trans rfl;have hfz37_0:=blk_frozen BK364.out 0;have hfz37_1:=blk_frozen BK364.out 1;have hfz37_2:=blk_frozen BK364.out 2;have hfz37_3:=blk_frozen BK364.out 3))
    go_loopg [12] k (fun kq v12 w' => ∃ (x12_1 : Int) (x356000_1 : ByteArray) (x356001_1 : Int) (x356002_1 : Int) (x365002_1 : List ByteArray) (x365003_1 : List Int) (u365002 : Value) (u365003 : Value),v12 = .int .u64 x12_1∧Aside0 (factotumref09_Read.l1 kq a0 t360 x12_1 x356000_1 x356001_1 x356002_1 false x365002_1 x365003_1 = some (r1,r2,r3,r4,r5))∧Aside0 (kq ≤ k)∧Aside0 (Kd.R Kd.string 9 w' w.heap.size (fun _ => True) u365002 x365002_1)∧Aside0 (Kd.R (Kd.int .i64) 3 w' w.heap.size (fun _ => True) u365003 x365003_1)∧Aside0 (w'.heap[gb354]? = some (.cells #[.bool false,(.slice none 0 0),(.slice none 0 0),(.slice none 0 0)] 27 (0,0)))∧Aside0 (w'.heap[gb364]? = some (.cells #[.bool false,(.slice none 0 0),u365002,u365003] 27 (0,0)))∧Aside0 (IsS51 w w' gb355 x356000_1 x356001_1 x356002_1)∧Aside0 (Below w.heap.size w w'))
    case atStart => exact ⟨(0),(t377),(t378),(t379),(([] : List ByteArray)),(y380),(.slice none 0 0),(.slice Ao36 y380.length co36),(by first|(with_reducible rfl)|(simp;done)|(simp [*];done)|rfl|(simp only [not_isEmpty_bne])),H',⟨Nat.le_refl _⟩,⟨by first|exact Kd.R_nil _ _ _ _ _|exact Kd.N_nil _ _ _ _ _|exact Kd.V_nil _ _ _ _ _|exact Kd.Q_nil _ _ _ _ _|exact Kd.S_nil _ _ _ _ _⟩,⟨by (with_reducible repeat (first|apply zk1|apply zk2|apply zk3));exact Kd.R_mono (Kd.R_far (p:=⟨gb364,3,none⟩) (Kd.R_types HO382.out BK364.out (by decide)) (fun _ hk => hk.2) (.slice Ao36 y380.length co36)) (fun _ hk => trivial)⟩,⟨by (with_reducible repeat (first|apply zb1|apply zb2|apply zb3));refine blk_far ?_ NB354_364.out _;(with_reducible repeat (first|apply zb1|apply zb2|apply zb3));exact BK354.out⟩,⟨by (with_reducible repeat (first|apply zb1|apply zb2|apply zb3));refine blk_put (cs:=#[.bool false,.slice none 0 0,.slice none 0 0,.slice none 0 0]) ?_ 3 _ rfl;(with_reducible repeat (first|apply zb1|apply zb2|apply zb3));exact BK364.out⟩,⟨by repeat (first|(with_reducible first|exact HI355.out|apply IsS51.alloc|apply IsS51.drewN|apply IsS51.drew|apply IsS51.set_0|apply IsS51.set_1|apply IsS51.set_2|refine IsS51.far ?_ NB355_354.out _|refine IsS51.far ?_ NB355_364.out _)|exact HI355.out)⟩,⟨by repeat (first|(with_reducible first|exact HB.out|apply zl1|apply zl2|apply zl3|refine below_set ?_ (IsS51.ge HI355.out)|refine below_set ?_ GE354.out|refine below_set ?_ GE364.out)|exact HB.out)⟩⟩
    case round =>
     clear H'
     try clear hcz13_0 hcz13_1 hcz13_2 hcz13_3 hcz16_0 hcz16_1 hcz16_2 hcz25_0 hcz25_1
     try clear c1
     try clear c2
     try clear p2
     try clear c3
     try clear p6
     try clear c7
     try clear c10
     try clear c10b0
     try clear c10b1
     try clear c11
     try clear c12
     try clear c15
     try clear c15b0
     try clear c17
     try clear c20
     try clear c21
     try clear c23
     try clear c24
     try clear c30
     try clear c32
     try clear c33
     try clear hfz13_0 hfz13_1 hfz13_2 hfz13_3 hfz16_0 hfz16_1 hfz16_2 hfz25_0 hfz25_1 hfz25_2 hfz25_3 hfz28_0 hfz28_1 hfz28_2 hfz28_3 hfz34_0
     try clear hcz25_2 hcz25_3 hcz28_0 hcz28_1 hcz28_2 hcz28_3 hcz34_0 hcz34_1 hcz34_2 hcz34_3 hcz37_0 hcz37_1 hcz37_2 hcz37_3
     try clear hfz34_1 hfz34_2 hfz34_3 hfz37_0 hfz37_1 hfz37_2 hfz37_3
     try clear p2
     try clear p6
     obtain ⟨x12_1,x356000_1,x356001_1,x356002_1,x365002_1,x365003_1,u365002,u365003,rfl,HA,HK1,HO_365002,HO_365003,BK354,BK364,HI355,HB⟩:=hrel
     cases gk with
     | zero => exact absurd HA.out (by simp [factotumref09_Read.l1])
     | succ k1 =>
      have H:=HA.out
      clear HA
      simp only [factotumref09_Read.l1] at H
      have HC38:=Aside0.mk H
      clear H
      go_upto_region 16 with (fail)
      go_cut [68] (fun v68 wc => ∃ (kq : Nat) (x68_37 : Bool),v68 = .bool x68_37∧Aside0 (factotumref09_Read.j3 kq a0 t360 x12_1 x68_37 x356000_1 x356001_1 x356002_1 false x365002_1 x365003_1 = some (r1,r2,r3,r4,r5))∧Aside0 (kq ≤ k1)∧Aside0 (Kd.R Kd.string 9 wc w.heap.size (fun _ => True) u365002 x365002_1)∧Aside0 (Kd.R (Kd.int .i64) 3 wc w.heap.size (fun _ => True) u365003 x365003_1)∧Aside0 (wc.heap[gb354]? = some (.cells #[.bool false,(.slice none 0 0),(.slice none 0 0),(.slice none 0 0)] 27 (0,0)))∧Aside0 (wc.heap[gb364]? = some (.cells #[.bool false,(.slice none 0 0),u365002,u365003] 27 (0,0)))∧Aside0 (IsS51 w wc gb355 x356000_1 x356001_1 x356002_1)∧Aside0 (Below w.heap.size w wc))
      case first =>
       have H:=HC38.out
       clear HC38
       by_cases c39 : x12_1 < t360
       ·rw [if_pos c39] at H
        have c39b0 : decide (x12_1 < t360) = true:=decide_eq_true c39
        clear c39
        (first|rw [c39b0]|(simp only [i64_w,i32_w];rw [c39b0])|skip)
        have H':=Aside0.mk H
        clear H
        obtain ⟨HGz40,hgz40⟩:=HI355.out
        have hcz40_0:=cellS51_0 HGz40
        have hcz40_1:=cellS51_1 HGz40
        have hcz40_2:=cellS51_2 HGz40
        have hfz40_0:=blk_frozen HGz40 0
        have hfz40_1:=blk_frozen HGz40 1
        have hfz40_2:=blk_frozen HGz40 2
        clear HGz40 hgz40
        go_wp2
        go_meet
        case rel => exact ⟨_,((x356002_1 == 0)),(by first|(with_reducible rfl)|(simp;done)|(simp [*];done)|rfl|(simp only [not_isEmpty_bne])),H',⟨by have:=HK1.out;first|omega|exact Nat.le_refl _⟩,⟨by (with_reducible repeat (first|apply zk1|apply zk2|apply zk3));exact HO_365002.out⟩,⟨by (with_reducible repeat (first|apply zk1|apply zk2|apply zk3));exact HO_365003.out⟩,⟨by (with_reducible repeat (first|apply zb1|apply zb2|apply zb3));exact BK354.out⟩,⟨by (with_reducible repeat (first|apply zb1|apply zb2|apply zb3));exact BK364.out⟩,⟨by repeat (first|(with_reducible first|exact HI355.out|apply IsS51.alloc|apply IsS51.drewN|apply IsS51.drew|apply IsS51.set_0|apply IsS51.set_1|apply IsS51.set_2|refine IsS51.far ?_ NB355_354.out _|refine IsS51.far ?_ NB355_364.out _)|exact HI355.out)⟩,⟨by repeat (first|(with_reducible first|exact HB.out|apply zl1|apply zl2|apply zl3|refine below_set ?_ (IsS51.ge HI355.out)|refine below_set ?_ GE354.out|refine below_set ?_ GE364.out)|exact HB.out)⟩⟩
       ·rw [if_neg c39] at H
        have c39b0 : decide (x12_1 < t360) = false:=decide_eq_false c39
        clear c39
        (first|rw [c39b0]|(simp only [i64_w,i32_w];rw [c39b0])|skip)
        have H':=Aside0.mk H
        clear H
        go_wp2
        go_meet
        case rel => exact ⟨_,(false),(by first|(with_reducible rfl)|(simp;done)|(simp [*];done)|rfl|(simp only [not_isEmpty_bne])),H',⟨by have:=HK1.out;first|omega|exact Nat.le_refl _⟩,⟨by (with_reducible repeat (first|apply zk1|apply zk2|apply zk3));exact HO_365002.out⟩,⟨by (with_reducible repeat (first|apply zk1|apply zk2|apply zk3));exact HO_365003.out⟩,⟨by (with_reducible repeat (first|apply zb1|apply zb2|apply zb3));exact BK354.out⟩,⟨by (with_reducible repeat (first|apply zb1|apply zb2|apply zb3));exact BK364.out⟩,⟨by repeat (first|(with_reducible first|exact HI355.out|apply IsS51.alloc|apply IsS51.drewN|apply IsS51.drew|apply IsS51.set_0|apply IsS51.set_1|apply IsS51.set_2|refine IsS51.far ?_ NB355_354.out _|refine IsS51.far ?_ NB355_364.out _)|exact HI355.out)⟩,⟨by repeat (first|(with_reducible first|exact HB.out|apply zl1|apply zl2|apply zl3|refine below_set ?_ (IsS51.ge HI355.out)|refine below_set ?_ GE354.out|refine below_set ?_ GE364.out)|exact HB.out)⟩⟩
      case rest =>
       clear HC38
       try clear hcz13_0 hcz13_1 hcz13_2 hcz13_3 hcz16_0 hcz16_1 hcz16_2
       try clear c1
       try clear c2
       try clear p2
       try clear c3
       try clear p6
       try clear c7
       try clear c10
       try clear c10b0
       try clear c10b1
       try clear c11
       try clear c12
       try clear c15
       try clear c15b0
       try clear c17
       try clear c20
       try clear c21
       try clear c23
       try clear c24
       try clear c30
       try clear c32
       try clear c33
       try clear c39
       try clear c39b0
       try clear hfz13_0 hfz13_1 hfz13_2 hfz13_3 hfz16_0 hfz16_1 hfz16_2 hfz25_0 hfz25_1 hfz25_2 hfz25_3
       try clear hcz25_0 hcz25_1 hcz25_2 hcz25_3 hcz28_0 hcz28_1 hcz28_2 hcz28_3 hcz34_0 hcz34_1 hcz34_2 hcz34_3 hcz37_0 hcz37_1 hcz37_2 hcz37_3 hcz40_0 hcz40_1 hcz40_2
       try clear hfz28_0 hfz28_1 hfz28_2 hfz28_3 hfz34_0 hfz34_1 hfz34_2 hfz34_3 hfz37_0 hfz37_1 hfz37_2 hfz37_3 hfz40_0 hfz40_1 hfz40_2
       try clear p2
       try clear p6
       obtain ⟨kq,x68_37,rfl,HA,HJ37,HO_365002,HO_365003,BK354,BK364,HI355,HB⟩:=hcut
       cases kq with
       | zero => exact absurd HA.out (by simp [factotumref09_Read.j3])
       | succ kj37 =>
        have H:=HA.out
        clear HA
        simp only [factotumref09_Read.j3] at H
        by_cases c41 : x68_37 = true
        ·subst c41
         have H1 : ((factotumref01_Reader_Str.f x356000_1 x356001_1 x356002_1 255).bind fun bt383 => ((factotumref01_Reader_Num.f kj37 bt383.2.1 bt383.2.2.1 bt383.2.2.2 2).bind fun bt387 => (if x365002_1.length < 8796093022208 then (if x365003_1.length < 17592186044416 then (factotumref09_Read.l1 kj37 a0 t360 (IntKind.u64.wrap (x12_1 + 1)) bt387.2.1 bt387.2.2.1 bt387.2.2.2 false (x365002_1 ++ [bt383.1]) (x365003_1 ++ [wrap64 (bt387.1)])) else (none)) else (none)))) = some (r1,r2,r3,r4,r5):=by rw [if_pos rfl] at H;exact H
         clear H
         have H:=H1
         clear H1
         replace H:=Option.bind_eq_some_iff.mp H
         obtain ⟨⟨t383,t384,t385,t386⟩,A420,H⟩:=H
         replace H : ((factotumref01_Reader_Num.f kj37 t384 t385 t386 2).bind fun bt387 => (if x365002_1.length < 8796093022208 then (if x365003_1.length < 17592186044416 then (factotumref09_Read.l1 kj37 a0 t360 (IntKind.u64.wrap (x12_1 + 1)) bt387.2.1 bt387.2.2.1 bt387.2.2.2 false (x365002_1 ++ [t383]) (x365003_1 ++ [wrap64 (bt387.1)])) else (none)) else (none))) = some (r1,r2,r3,r4,r5):=H
         have A42:=Aside0.mk A420
         clear A420
         replace H:=Option.bind_eq_some_iff.mp H
         obtain ⟨⟨t387,t388,t389,t390⟩,A430,H⟩:=H
         replace H : (if x365002_1.length < 8796093022208 then (if x365003_1.length < 17592186044416 then (factotumref09_Read.l1 kj37 a0 t360 (IntKind.u64.wrap (x12_1 + 1)) t388 t389 t390 false (x365002_1 ++ [t383]) (x365003_1 ++ [wrap64 (t387)])) else (none)) else (none)) = some (r1,r2,r3,r4,r5):=H
         have A43:=Aside0.mk A430
         clear A430
         by_cases c44 : x365002_1.length < 8796093022208
         ·rw [if_pos c44] at H
          have LMc44:=Aside0.mk c44
          clear c44
          obtain ⟨y391,hy391⟩ : ∃ y_ : List ByteArray,y_ = (x365002_1 ++ [t383]):=⟨_,rfl⟩
          replace H : (if x365003_1.length < 17592186044416 then (factotumref09_Read.l1 kj37 a0 t360 (IntKind.u64.wrap (x12_1 + 1)) t388 t389 t390 false y391 (x365003_1 ++ [wrap64 (t387)])) else (none)) = some (r1,r2,r3,r4,r5):=by first|(rw [hy391];with_reducible exact H)|(have H2_:=(Option.bind_some _ _).symm.trans H;rw [hy391];with_reducible exact H2_)|(have H2_:=(Option.bind_some _ _).symm.trans H;with_reducible exact H2_)|with_reducible exact H|(rw [hy391];exact H)|exact H
          have Ny391:=Aside0.mk hy391
          clear hy391
          by_cases c45 : x365003_1.length < 17592186044416
          ·rw [if_pos c45] at H
           have LMc45:=Aside0.mk c45
           clear c45
           obtain ⟨y394,hy394⟩ : ∃ y_ : List Int,y_ = (x365003_1 ++ [wrap64 (t387)]):=⟨_,rfl⟩
           replace H : (factotumref09_Read.l1 kj37 a0 t360 (IntKind.u64.wrap (x12_1 + 1)) t388 t389 t390 false y391 y394) = some (r1,r2,r3,r4,r5):=by first|(rw [hy394];with_reducible exact H)|(have H2_:=(Option.bind_some _ _).symm.trans H;rw [hy394];with_reducible exact H2_)|(have H2_:=(Option.bind_some _ _).symm.trans H;with_reducible exact H2_)|with_reducible exact H|(rw [hy394];exact H)|exact H
           have Ny394:=Aside0.mk hy394
           clear hy394
           have H':=Aside0.mk H
           clear H
           go_wp2_with (first|((with_reducible refine gate_callee (f:=21) rfl ?_);refine goesL_ (some 72) rfl rfl Tryd.func21 (by kernel_rfl) rfl #[.pointer (some ⟨gb355,0,none⟩),.int .i64 255] rfl (by (try simp only [List.map_toArray,List.map_cons,List.map_nil]);first|done|rfl|(simp only [List.length_drop,List.length_take];rfl)|(simp (disch:=omega) only [u64_in];rfl)) ?_;(with_reducible refine (factotumref01_Reader_Str.calls gb355 x356000_1 x356001_1 x356002_1 255 t383 t384 t385 t386 w _ ?side1 ?side2 A42.out).mono ?_);(case side1 => repeat (first|(with_reducible first|exact HI355.out|apply IsS51.alloc|apply IsS51.drewN|apply IsS51.drew|apply IsS51.set_0|apply IsS51.set_1|apply IsS51.set_2|refine IsS51.far ?_ NB355_354.out _|refine IsS51.far ?_ NB355_364.out _)|exact HI355.out));(case side2 => repeat (first|(with_reducible first|exact HB.out|apply zl1|apply zl2|apply zl3|refine below_set ?_ (IsS51.ge HI355.out)|refine below_set ?_ GE354.out|refine below_set ?_ GE364.out)|exact HB.out));rintro e w46 ⟨rfl,hi,hb,hk⟩;refine ⟨_,rfl,?_⟩;replace HO_365002:=Aside0.mk (Kd.R_mono (Kd.R_keep (IsS51.apart (show IsS51 w _ gb355 x356000_1 x356001_1 x356002_1 from by repeat (first|(with_reducible first|exact HI355.out|apply IsS51.alloc|apply IsS51.drewN|apply IsS51.drew|apply IsS51.set_0|apply IsS51.set_1|apply IsS51.set_2|refine IsS51.far ?_ NB355_354.out _|refine IsS51.far ?_ NB355_364.out _)|exact HI355.out)) (by (with_reducible repeat (first|apply zk1|apply zk2|apply zk3));exact HO_365002.out) (by decide)) hk (fun _ h => h.2)) (fun _ h => h.1));replace HO_365003:=Aside0.mk (Kd.R_mono (Kd.R_keep (IsS51.apart (show IsS51 w _ gb355 x356000_1 x356001_1 x356002_1 from by repeat (first|(with_reducible first|exact HI355.out|apply IsS51.alloc|apply IsS51.drewN|apply IsS51.drew|apply IsS51.set_0|apply IsS51.set_1|apply IsS51.set_2|refine IsS51.far ?_ NB355_354.out _|refine IsS51.far ?_ NB355_364.out _)|exact HI355.out)) (by (with_reducible repeat (first|apply zk1|apply zk2|apply zk3));exact HO_365003.out) (by decide)) hk (fun _ h => h.2)) (fun _ h => h.1));replace BK354:=Aside0.mk (KeepBut.blk hk (g':=gb354) (o:=.cells #[.bool false,.slice none 0 0,.slice none 0 0,.slice none 0 0] 27 (0,0)) (by (with_reducible repeat (first|apply zb1|apply zb2|apply zb3));exact BK354.out) NB354_355.out (by simp));replace BK364:=Aside0.mk (KeepBut.blk hk (g':=gb364) (o:=.cells #[.bool false,.slice none 0 0,u365002,u365003] 27 (0,0)) (by (with_reducible repeat (first|apply zb1|apply zb2|apply zb3));exact BK364.out) NB364_355.out (by simp));replace HB:=Aside0.mk (hb);replace HI355:=Aside0.mk (hi);(try clear hb);(try clear hk);(try clear hi))|((with_reducible refine gate_callee (f:=20) rfl ?_);refine goesL_ (some 74) rfl rfl Tryd.func20 (by kernel_rfl) rfl #[.pointer (some ⟨gb355,0,none⟩),.int .i64 2] rfl (by (try simp only [List.map_toArray,List.map_cons,List.map_nil]);first|done|rfl|(simp only [List.length_drop,List.length_take];rfl)|(simp (disch:=omega) only [u64_in];rfl)) ?_;(with_reducible refine (factotumref01_Reader_Num.calls kj37 gb355 t384 t385 t386 2 t387 t388 t389 t390 w _ ?side1 ?side2 A43.out).mono ?_);(case side1 => repeat (first|(with_reducible first|exact HI355.out|apply IsS51.alloc|apply IsS51.drewN|apply IsS51.drew|apply IsS51.set_0|apply IsS51.set_1|apply IsS51.set_2|refine IsS51.far ?_ NB355_354.out _|refine IsS51.far ?_ NB355_364.out _)|exact HI355.out));(case side2 => repeat (first|(with_reducible first|exact HB.out|apply zl1|apply zl2|apply zl3|refine below_set ?_ (IsS51.ge HI355.out)|refine below_set ?_ GE354.out|refine below_set ?_ GE364.out)|exact HB.out));rintro e w47 ⟨rfl,hi,hb,hk⟩;refine ⟨_,rfl,?_⟩;replace HO_365002:=Aside0.mk (Kd.R_mono (Kd.R_keep (IsS51.apart (show IsS51 w _ gb355 t384 t385 t386 from by repeat (first|(with_reducible first|exact HI355.out|apply IsS51.alloc|apply IsS51.drewN|apply IsS51.drew|apply IsS51.set_0|apply IsS51.set_1|apply IsS51.set_2|refine IsS51.far ?_ NB355_354.out _|refine IsS51.far ?_ NB355_364.out _)|exact HI355.out)) (by (with_reducible repeat (first|apply zk1|apply zk2|apply zk3));exact HO_365002.out) (by decide)) hk (fun _ h => h.2)) (fun _ h => h.1));replace HO_365003:=Aside0.mk (Kd.R_mono (Kd.R_keep (IsS51.apart (show IsS51 w _ gb355 t384 t385 t386 from by repeat (first|(with_reducible first|exact HI355.out|apply IsS51.alloc|apply IsS51.drewN|apply IsS51.drew|apply IsS51.set_0|apply IsS51.set_1|apply IsS51.set_2|refine IsS51.far ?_ NB355_354.out _|refine IsS51.far ?_ NB355_364.out _)|exact HI355.out)) (by (with_reducible repeat (first|apply zk1|apply zk2|apply zk3));exact HO_365003.out) (by decide)) hk (fun _ h => h.2)) (fun _ h => h.1));replace BK354:=Aside0.mk (KeepBut.blk hk (g':=gb354) (o:=.cells #[.bool false,.slice none 0 0,.slice none 0 0,.slice none 0 0] 27 (0,0)) (by (with_reducible repeat (first|apply zb1|apply zb2|apply zb3));exact BK354.out) NB354_355.out (by simp));replace BK364:=Aside0.mk (KeepBut.blk hk (g':=gb364) (o:=.cells #[.bool false,.slice none 0 0,u365002,u365003] 27 (0,0)) (by (with_reducible repeat (first|apply zb1|apply zb2|apply zb3));exact BK364.out) NB364_355.out (by simp));replace HB:=Aside0.mk (hb);replace HI355:=Aside0.mk (hi);(try clear hb);(try clear hk);(try clear hi);have hnb48:=NB364_354.out;have hnc48:=NB354_364.out;have hnb49:=NB364_355.out;have hnc49:=NB355_364.out;have hcz50_0 : w47.cell? ⟨gb364,0,none⟩ = some (.bool false):=(blk_cell BK364.out 0).trans rfl;have hcz50_1 : w47.cell? ⟨gb364,1,none⟩ = some (.slice none 0 0):=(blk_cell BK364.out 1).trans rfl;have hcz50_2 : w47.cell? ⟨gb364,2,none⟩ = some (u365002):=(blk_cell BK364.out 2).trans rfl;have hcz50_3 : w47.cell? ⟨gb364,3,none⟩ = some (u365003):=(blk_cell BK364.out 3).trans rfl;have hfz50_0:=blk_frozen BK364.out 0;have hfz50_1:=blk_frozen BK364.out 1;have hfz50_2:=blk_frozen BK364.out 2;have hfz50_3:=blk_frozen BK364.out 3)|((with_reducible refine gate_builtin (b:=.append) (xs:=#[.tmp 76,.tmp 78]) rfl ?_);at_builtin;refine Kd.R_append Kd.string (w0:=w) w.heap.size rfl (.tmp 76) (.tmp 78) 24 9 (.string ⟨#[]⟩) 16 rfl Tryd.underlying24 info9 rfl (by decide) (by omega) u365002 x365002_1 t383 [.string t383] (fun _ => True) (fun _ => False) rfl rfl ?aP (fun _ hk => hk.elim) ?aF ?aO ?aB ?aS ?aL ?_;(case aP => exact rfl);(case aB => exact (by repeat (first|(with_reducible first|exact HB.out|apply zl1|apply zl2|apply zl3|refine below_set ?_ (IsS51.ge HI355.out)|refine below_set ?_ GE354.out|refine below_set ?_ GE364.out)|exact HB.out)));(case aF => exact (fun _ _ => trivial));(case aO => exact (by (with_reducible repeat (first|apply zk1|apply zk2|apply zk3));exact HO_365002.out));(case aS => exact (below_size (by repeat (first|(with_reducible first|exact HB.out|apply zl1|apply zl2|apply zl3|refine below_set ?_ (IsS51.ge HI355.out)|refine below_set ?_ GE354.out|refine below_set ?_ GE364.out)|exact HB.out))));(case aL => have:=LMc44.out;omega);intro v392 w51 ho hb hg hat;rw [← Ny391.out] at ho;have n0_:=Aside0.mk (Kd.R_over' (by (with_reducible repeat (first|apply zk1|apply zk2|apply zk3));exact HO_365003.out) (Kd.R_typed (by (with_reducible repeat (first|apply zk1|apply zk2|apply zk3));exact HO_365002.out)) (by decide) hg);have n1_:=Aside0.mk (blk_grown (g:=gb354) (o:=.cells #[.bool false,.slice none 0 0,.slice none 0 0,.slice none 0 0] 27 (0,0)) (by (with_reducible repeat (first|apply zb1|apply zb2|apply zb3));exact BK354.out) hg (Kd.R_ne HO_365002.out BK354.out (by decide)));have n2_:=Aside0.mk (blk_grown (g:=gb364) (o:=.cells #[.bool false,.slice none 0 0,u365002,u365003] 27 (0,0)) (by (with_reducible repeat (first|apply zb1|apply zb2|apply zb3));exact BK364.out) hg (Kd.R_ne HO_365002.out BK364.out (by decide)));have n3_:=Aside0.mk (IsS51.grown (show IsS51 w _ gb355 t388 t389 t390 from by repeat (first|(with_reducible first|exact HI355.out|apply IsS51.alloc|apply IsS51.drewN|apply IsS51.drew|apply IsS51.set_0|apply IsS51.set_1|apply IsS51.set_2|refine IsS51.far ?_ NB355_354.out _|refine IsS51.far ?_ NB355_364.out _)|exact HI355.out)) hg (IsS51.own_ne HI355.out HO_365002.out (by decide)));have n4_:=Aside0.mk (hb);have n5_:=Aside0.mk (ho);clear HO_365003;clear BK354;clear BK364;clear HI355;clear HB;clear HO_365002;have HO_365003:=n0_;have BK354:=n1_;have BK364:=n2_;have HI355:=n3_;have HB:=n4_;have HO393:=n5_;clear n0_ n1_ n2_ n3_ n4_ n5_;clear ho hb hg hat;obtain ⟨Ao52,co52,eo52⟩:=Kd.R_slice HO393.out;subst eo52;have hcz53_0 : w51.cell? ⟨gb364,0,none⟩ = some (.bool false):=(blk_cell BK364.out 0).trans rfl;have hcz53_1 : w51.cell? ⟨gb364,1,none⟩ = some (.slice none 0 0):=(blk_cell BK364.out 1).trans rfl;have hcz53_2 : w51.cell? ⟨gb364,2,none⟩ = some (u365002):=(blk_cell BK364.out 2).trans rfl;have hcz53_3 : w51.cell? ⟨gb364,3,none⟩ = some (u365003):=(blk_cell BK364.out 3).trans rfl;have hfz53_0:=blk_frozen BK364.out 0;have hfz53_1:=blk_frozen BK364.out 1;have hfz53_2:=blk_frozen BK364.out 2;have hfz53_3:=blk_frozen BK364.out 3)|((with_reducible refine gate_builtin (b:=.append) (xs:=#[.tmp 82,.tmp 85]) rfl ?_);at_builtin;refine Kd.R_append (Kd.int .i64) (w0:=w) w.heap.size rfl (.tmp 82) (.tmp 85) 25 3 (.int .i64 0) 8 rfl Tryd.underlying25 info3 rfl (by decide) (by omega) u365003 x365003_1 (wrap64 (t387)) [.int .i64 (wrap64 (t387))] (fun _ => True) (fun _ => False) rfl (by first|(go_simp;done)|(go_simp;rfl)) ?aP (fun _ hk => hk.elim) ?aF ?aO ?aB ?aS ?aL ?_;(case aP => exact rfl);(case aB => exact (by repeat (first|(with_reducible first|exact HB.out|apply zl1|apply zl2|apply zl3|refine below_set ?_ (IsS51.ge HI355.out)|refine below_set ?_ GE354.out|refine below_set ?_ GE364.out)|exact HB.out)));(case aF => exact (fun _ _ => trivial));(case aO => exact (by (with_reducible repeat (first|apply zk1|apply zk2|apply zk3));exact Kd.R_mono (Kd.R_far (p:=⟨gb364,2,none⟩) (Kd.R_types HO_365003.out BK364.out (by decide)) (fun _ hk => hk.2) (.slice Ao52 y391.length co52)) (fun _ hk => trivial)));(case aS => exact (below_size (by repeat (first|(with_reducible first|exact HB.out|apply zl1|apply zl2|apply zl3|refine below_set ?_ (IsS51.ge HI355.out)|refine below_set ?_ GE354.out|refine below_set ?_ GE364.out)|exact HB.out))));(case aL => have:=LMc45.out;omega);intro v395 w54 ho hb hg hat;rw [← Ny394.out] at ho;have n0_:=Aside0.mk (blk_grown (g:=gb354) (o:=.cells #[.bool false,.slice none 0 0,.slice none 0 0,.slice none 0 0] 27 (0,0)) (by (with_reducible repeat (first|apply zb1|apply zb2|apply zb3));refine blk_far ?_ NB354_364.out _;(with_reducible repeat (first|apply zb1|apply zb2|apply zb3));exact BK354.out) hg (Kd.R_ne HO_365003.out BK354.out (by decide)));have n1_:=Aside0.mk (blk_grown (g:=gb364) (o:=.cells #[.bool false,.slice none 0 0,.slice Ao52 y391.length co52,u365003] 27 (0,0)) (by (with_reducible repeat (first|apply zb1|apply zb2|apply zb3));refine blk_put (cs:=#[.bool false,.slice none 0 0,u365002,u365003]) ?_ 2 _ rfl;(with_reducible repeat (first|apply zb1|apply zb2|apply zb3));exact BK364.out) hg (Kd.R_ne HO_365003.out BK364.out (by decide)));have n2_:=Aside0.mk (IsS51.grown (show IsS51 w _ gb355 t388 t389 t390 from by repeat (first|(with_reducible first|exact HI355.out|apply IsS51.alloc|apply IsS51.drewN|apply IsS51.drew|apply IsS51.set_0|apply IsS51.set_1|apply IsS51.set_2|refine IsS51.far ?_ NB355_354.out _|refine IsS51.far ?_ NB355_364.out _)|exact HI355.out)) hg (IsS51.own_ne HI355.out HO_365003.out (by decide)));have n3_:=Aside0.mk (Kd.R_over' (by (with_reducible repeat (first|apply zk1|apply zk2|apply zk3));exact (Kd.R_mono (Kd.R_far (p:=⟨gb364,2,none⟩) (Kd.R_types HO393.out BK364.out (by decide)) (fun _ hk => hk.2) (.slice Ao52 y391.length co52)) (fun _ h_ => h_.1))) (Kd.R_typed (by (with_reducible repeat (first|apply zk1|apply zk2|apply zk3));exact (Kd.R_mono (Kd.R_far (p:=⟨gb364,2,none⟩) (Kd.R_types HO_365003.out BK364.out (by decide)) (fun _ hk => hk.2) (.slice Ao52 y391.length co52)) (fun _ h_ => h_.1)))) (by decide) hg);have n4_:=Aside0.mk (hb);have n5_:=Aside0.mk (ho);clear BK354;clear BK364;clear HI355;clear HO393;clear HB;clear HO_365003;have BK354:=n0_;have BK364:=n1_;have HI355:=n2_;have HO393:=n3_;have HB:=n4_;have HO396:=n5_;clear n0_ n1_ n2_ n3_ n4_ n5_;clear ho hb hg hat;obtain ⟨Ao55,co55,eo55⟩:=Kd.R_slice HO396.out;subst eo55;have hcz56_0 : w54.cell? ⟨gb364,0,none⟩ = some (.bool false):=(blk_cell BK364.out 0).trans rfl;have hcz56_1 : w54.cell? ⟨gb364,1,none⟩ = some (.slice none 0 0):=(blk_cell BK364.out 1).trans rfl;have hcz56_2 : w54.cell? ⟨gb364,2,none⟩ = some (.slice Ao52 y391.length co52):=(blk_cell BK364.out 2).trans rfl;have hcz56_3 : w54.cell? ⟨gb364,3,none⟩ = some (u365003):=(blk_cell BK364.out 3).trans rfl;have hfz56_0:=blk_frozen BK364.out 0;have hfz56_1:=blk_frozen BK364.out 1;have hfz56_2:=blk_frozen BK364.out 2;have hfz56_3:=blk_frozen BK364.out 3))
           go_roundg kj37
           case measure => have:=HK1.out;have:=HJ37.out;omega
           case rel => exact ⟨(IntKind.u64.wrap (x12_1 + 1)),(t388),(t389),(t390),(y391),(y394),(.slice Ao52 y391.length co52),(.slice Ao55 y394.length co55),(by first|(with_reducible rfl)|(simp;done)|(simp [*];done)|rfl|(simp only [not_isEmpty_bne])),H',⟨by have:=HK1.out;have:=HJ37.out;omega⟩,⟨by (with_reducible repeat (first|apply zk1|apply zk2|apply zk3));exact Kd.R_mono (Kd.R_far (p:=⟨gb364,3,none⟩) (Kd.R_types HO393.out BK364.out (by decide)) (fun _ hk => hk.2) (.slice Ao55 y394.length co55)) (fun _ hk => trivial)⟩,⟨by (with_reducible repeat (first|apply zk1|apply zk2|apply zk3));exact Kd.R_mono (Kd.R_far (p:=⟨gb364,3,none⟩) (Kd.R_types HO396.out BK364.out (by decide)) (fun _ hk => hk.2) (.slice Ao55 y394.length co55)) (fun _ hk => trivial)⟩,⟨by (with_reducible repeat (first|apply zb1|apply zb2|apply zb3));refine blk_far ?_ NB354_364.out _;(with_reducible repeat (first|apply zb1|apply zb2|apply zb3));exact BK354.out⟩,⟨by (with_reducible repeat (first|apply zb1|apply zb2|apply zb3));refine blk_put (cs:=#[.bool false,.slice none 0 0,.slice Ao52 y391.length co52,u365003]) ?_ 3 _ rfl;(with_reducible repeat (first|apply zb1|apply zb2|apply zb3));exact BK364.out⟩,⟨by repeat (first|(with_reducible first|exact HI355.out|apply IsS51.alloc|apply IsS51.drewN|apply IsS51.drew|apply IsS51.set_0|apply IsS51.set_1|apply IsS51.set_2|refine IsS51.far ?_ NB355_354.out _|refine IsS51.far ?_ NB355_364.out _)|exact HI355.out)⟩,⟨by repeat (first|(with_reducible first|exact HB.out|apply zl1|apply zl2|apply zl3|refine below_set ?_ (IsS51.ge HI355.out)|refine below_set ?_ GE354.out|refine below_set ?_ GE364.out)|exact HB.out)⟩⟩
          ·rw [if_neg c45] at H
           exact absurd H (by simp)
         ·rw [if_neg c44] at H
          exact absurd H (by simp)
        ·replace c41:=Bool.eq_false_iff.mpr c41
         subst c41
         have H1 : (factotumref09_Read.j4 kj37 a0 x356000_1 x356001_1 x356002_1 false ([] : List (S44)) x365002_1 x365003_1) = some (r1,r2,r3,r4,r5):=by rw [if_neg (show ¬ (false = true) by decide)] at H;exact H
         clear H
         have H:=H1
         clear H1
         have H':=Aside0.mk H
         clear H
         go_wp2
         go_meet
         case rel => exact ⟨_,(x356000_1),(x356001_1),(x356002_1),(false),(([] : List (S44))),(x365002_1),(x365003_1),(.slice none 0 0),(u365002),(u365003),H',⟨by have:=HK1.out;have:=HJ37.out;first|omega|exact Nat.le_refl _⟩,⟨by first|exact Kd.R_nil _ _ _ _ _|exact Kd.N_nil _ _ _ _ _|exact Kd.V_nil _ _ _ _ _|exact Kd.Q_nil _ _ _ _ _|exact Kd.S_nil _ _ _ _ _⟩,⟨by (with_reducible repeat (first|apply zk1|apply zk2|apply zk3));exact HO_365002.out⟩,⟨by (with_reducible repeat (first|apply zk1|apply zk2|apply zk3));exact HO_365003.out⟩,⟨by (with_reducible repeat (first|apply zb1|apply zb2|apply zb3));exact BK354.out⟩,⟨by (with_reducible repeat (first|apply zb1|apply zb2|apply zb3));exact BK364.out⟩,⟨by repeat (first|(with_reducible first|exact HI355.out|apply IsS51.alloc|apply IsS51.drewN|apply IsS51.drew|apply IsS51.set_0|apply IsS51.set_1|apply IsS51.set_2|refine IsS51.far ?_ NB355_354.out _|refine IsS51.far ?_ NB355_364.out _)|exact HI355.out)⟩,⟨by repeat (first|(with_reducible first|exact HB.out|apply zl1|apply zl2|apply zl3|refine below_set ?_ (IsS51.ge HI355.out)|refine below_set ?_ GE354.out|refine below_set ?_ GE364.out)|exact HB.out)⟩⟩
   ·rw [if_neg c30] at H
    exact absurd H (by simp)
 case rest =>
  clear HC4
  try clear hcz13_0
  try clear c1
  try clear c2
  try clear p2
  try clear c3
  try clear c4
  try clear p6
  try clear c7
  try clear c10
  try clear c10b0
  try clear c10b1
  try clear c11
  try clear c12
  try clear c15
  try clear c15b0
  try clear c17
  try clear c20
  try clear c21
  try clear c23
  try clear c24
  try clear c30
  try clear c32
  try clear c33
  try clear c39
  try clear c39b0
  try clear c41
  try clear c44
  try clear c45
  try clear c48
  try clear c49
  try clear hcz13_1 hcz13_2 hcz13_3 hcz16_0 hcz16_1 hcz16_2 hcz25_0 hcz25_1 hcz25_2 hcz25_3 hcz28_0 hcz28_1 hcz28_2 hcz28_3 hcz34_0 hcz34_1 hcz34_2 hcz34_3 hcz37_0 hcz37_1 hcz37_2 hcz37_3 hcz40_0 hcz40_1 hcz40_2 hcz50_0 hcz50_1 hcz50_2 hcz50_3 hcz53_0
  try clear hfz13_0 hfz13_1 hfz13_2 hfz13_3 hfz16_0 hfz16_1 hfz16_2 hfz25_0 hfz25_1 hfz25_2 hfz25_3 hfz28_0 hfz28_1 hfz28_2 hfz28_3 hfz34_0 hfz34_1 hfz34_2 hfz34_3 hfz37_0 hfz37_1 hfz37_2 hfz37_3
  try clear hcz53_1 hcz53_2 hcz53_3 hcz56_0 hcz56_1 hcz56_2 hcz56_3
  try clear hfz40_0 hfz40_1 hfz40_2 hfz50_0 hfz50_1 hfz50_2 hfz50_3 hfz53_0 hfz53_1 hfz53_2 hfz53_3 hfz56_0 hfz56_1 hfz56_2 hfz56_3
  try clear p2
  try clear p6
  obtain ⟨kq,x356000_3,x356001_3,x356002_3,x365000_3,x365001_3,x365002_3,x365003_3,u365001,u365002,u365003,HA,HJ3,HO_365001,HO_365002,HO_365003,BK354,BK364,HI355,HB⟩:=hcut
  cases kq with
  | zero => exact absurd HA.out (by simp [factotumref09_Read.j4])
  | succ kj3 =>
   have H:=HA.out
   clear HA
   simp only [factotumref09_Read.j4] at H
   replace H:=Option.bind_eq_some_iff.mp H
   obtain ⟨⟨t397,t398⟩,A570,H⟩:=H
   replace H : (if x356002_3 = 0 then (if t398 = 0 then (factotumref09_Read.j5 kj3 (t397.toList != a0.toList) x365000_3 x365001_3 x365002_3 x365003_3) else (factotumref09_Read.j5 kj3 true x365000_3 x365001_3 x365002_3 x365003_3)) else (factotumref09_Read.j5 kj3 true x365000_3 x365001_3 x365002_3 x365003_3)) = some (r1,r2,r3,r4,r5):=H
   have A57:=Aside0.mk A570
   clear A570
   have HC58:=Aside0.mk H
   clear H
   have hnb59:=NB364_354.out
   have hnc59:=NB354_364.out
   have hnb60:=NB364_355.out
   have hnc60:=NB355_364.out
   have hcz61_0 : wc.cell? ⟨gb364,0,none⟩ = some (.bool x365000_3):=(blk_cell BK364.out 0).trans rfl
   have hcz61_1 : wc.cell? ⟨gb364,1,none⟩ = some (u365001):=(blk_cell BK364.out 1).trans rfl
   have hcz61_2 : wc.cell? ⟨gb364,2,none⟩ = some (u365002):=(blk_cell BK364.out 2).trans rfl
   have hcz61_3 : wc.cell? ⟨gb364,3,none⟩ = some (u365003):=(blk_cell BK364.out 3).trans rfl
   have hfz61_0:=blk_frozen BK364.out 0
   have hfz61_1:=blk_frozen BK364.out 1
   have hfz61_2:=blk_frozen BK364.out 2
   have hfz61_3:=blk_frozen BK364.out 3
   obtain ⟨Ao62,co62,eo62⟩:=Kd.R_slice HO_365001.out
   subst eo62
   obtain ⟨Ao63,co63,eo63⟩:=Kd.R_slice HO_365002.out
   subst eo63
   obtain ⟨Ao64,co64,eo64⟩:=Kd.R_slice HO_365003.out
   subst eo64
   go_upto_region 23 with (first|((with_reducible refine gate_callee (f:=22) rfl ?_);refine goesL_ (some 90) rfl rfl Tryd.func22 (by kernel_rfl) rfl #[.agg #[.bool x365000_3,.slice Ao62 x365001_3.length co62,.slice Ao63 x365002_3.length co63,.slice Ao64 x365003_3.length co64]] rfl (by (try simp only [List.map_toArray,List.map_cons,List.map_nil]);first|done|rfl|(simp only [List.length_drop,List.length_take];rfl)|(simp (disch:=omega) only [u64_in];rfl)) ?_;(with_reducible refine (factotumref09_Write.calls kj3 x365000_3 _ _ x365001_3 _ _ x365002_3 _ _ x365003_3 t397 t398 _ ?side1 ?side2 ?side3 ?side4 ?side5 ?side6 A57.out).mono ?_);(case side1 => repeat (first|exact (Kd.R_reads' HO_365001.out).2.2|(with_reducible refine Kd.C_alloc ?_ _)|(with_reducible refine Kd.C_drewN ?_ _)|(with_reducible refine Kd.C_drew ?_)));(case side2 => exact (Kd.R_reads' HO_365001.out).2.1);(case side3 => repeat (first|exact (Kd.R_reads' HO_365002.out).2.2|(with_reducible refine Kd.C_alloc ?_ _)|(with_reducible refine Kd.C_drewN ?_ _)|(with_reducible refine Kd.C_drew ?_)));(case side4 => exact (Kd.R_reads' HO_365002.out).2.1);(case side5 => repeat (first|exact (Kd.R_reads' HO_365003.out).2.2|(with_reducible refine Kd.C_alloc ?_ _)|(with_reducible refine Kd.C_drewN ?_ _)|(with_reducible refine Kd.C_drew ?_)));(case side6 => exact (Kd.R_reads' HO_365003.out).2.1);rintro e w65 ⟨rfl,hb⟩;refine ⟨_,rfl,?_⟩;replace HO_365001:=Aside0.mk (Kd.R_below (by (with_reducible repeat (first|apply zk1|apply zk2|apply zk3));exact HO_365001.out) hb);replace HO_365002:=Aside0.mk (Kd.R_below (by (with_reducible repeat (first|apply zk1|apply zk2|apply zk3));exact HO_365002.out) hb);replace HO_365003:=Aside0.mk (Kd.R_below (by (with_reducible repeat (first|apply zk1|apply zk2|apply zk3));exact HO_365003.out) hb);replace BK354:=Aside0.mk (blk_below (g:=gb354) (o:=.cells #[.bool false,.slice none 0 0,.slice none 0 0,.slice none 0 0] 27 (0,0)) (by (with_reducible repeat (first|apply zb1|apply zb2|apply zb3));exact BK354.out) hb);replace BK364:=Aside0.mk (blk_below (g:=gb364) (o:=.cells #[.bool x365000_3,.slice Ao62 x365001_3.length co62,.slice Ao63 x365002_3.length co63,.slice Ao64 x365003_3.length co64] 27 (0,0)) (by (with_reducible repeat (first|apply zb1|apply zb2|apply zb3));exact BK364.out) hb);replace HB:=Aside0.mk (below_step (by repeat (first|(with_reducible first|exact HB.out|apply zl1|apply zl2|apply zl3|refine below_set ?_ (IsS51.ge HI355.out)|refine below_set ?_ GE354.out|refine below_set ?_ GE364.out)|exact HB.out)) hb);replace HI355:=Aside0.mk (IsS51.below (by repeat (first|(with_reducible first|exact HI355.out|apply IsS51.alloc|apply IsS51.drewN|apply IsS51.drew|apply IsS51.set_0|apply IsS51.set_1|apply IsS51.set_2|refine IsS51.far ?_ NB355_354.out _|refine IsS51.far ?_ NB355_364.out _)|exact HI355.out)) hb);(try clear hb)))
   (try simp only [Act.put,List.setIfInBounds_toArray,List.set_cons_zero,List.set_cons_succ])
   go_cut [106] (fun v106 wc => ∃ (kq : Nat) (x106_57 : Bool),v106 = .bool x106_57∧Aside0 (factotumref09_Read.j5 kq x106_57 x365000_3 x365001_3 x365002_3 x365003_3 = some (r1,r2,r3,r4,r5))∧Aside0 (kq ≤ kj3)∧Aside0 (Kd.R k44 44 wc w.heap.size (fun _ => True) (.slice Ao62 x365001_3.length co62) x365001_3)∧Aside0 (Kd.R Kd.string 9 wc w.heap.size (fun _ => True) (.slice Ao63 x365002_3.length co63) x365002_3)∧Aside0 (Kd.R (Kd.int .i64) 3 wc w.heap.size (fun _ => True) (.slice Ao64 x365003_3.length co64) x365003_3)∧Aside0 (wc.heap[gb354]? = some (.cells #[.bool false,(.slice none 0 0),(.slice none 0 0),(.slice none 0 0)] 27 (0,0)))∧Aside0 (wc.heap[gb364]? = some (.cells #[.bool x365000_3,(.slice Ao62 x365001_3.length co62),(.slice Ao63 x365002_3.length co63),(.slice Ao64 x365003_3.length co64)] 27 (0,0)))∧Aside0 (Below w.heap.size w wc))
   case first =>
    have H:=HC58.out
    clear HC58
    by_cases c66 : x356002_3 = 0
    ·rw [if_pos c66] at H
     have c66b0 : (x356002_3 == 0) = true:=beq_iff_eq.mpr c66
     have c66b1 : (x356002_3 != 0) = false:=bne_eq_false_iff_eq.mpr c66
     clear c66
     (first|rw [c66b0]|(simp only [i64_w,i32_w];rw [c66b0])|skip)
     by_cases c67 : t398 = 0
     ·rw [if_pos c67] at H
      have c67b0 : (t398 == 0) = true:=beq_iff_eq.mpr c67
      have c67b1 : (t398 != 0) = false:=bne_eq_false_iff_eq.mpr c67
      clear c67
      have H':=Aside0.mk H
      clear H
      obtain ⟨HGz68,hgz68⟩:=HI355.out
      have hcz68_0:=cellS51_0 HGz68
      have hcz68_1:=cellS51_1 HGz68
      have hcz68_2:=cellS51_2 HGz68
      have hfz68_0:=blk_frozen HGz68 0
      have hfz68_1:=blk_frozen HGz68 1
      have hfz68_2:=blk_frozen HGz68 2
      clear HGz68 hgz68
      go_wp2
      go_meet
      case rel => exact ⟨_,((t397.toList != a0.toList)),(by first|(with_reducible rfl)|(simp;done)|(simp [*];done)|rfl|(simp only [not_isEmpty_bne])),H',⟨by have:=HJ3.out;first|omega|exact Nat.le_refl _⟩,⟨by (with_reducible repeat (first|apply zk1|apply zk2|apply zk3));exact HO_365001.out⟩,⟨by (with_reducible repeat (first|apply zk1|apply zk2|apply zk3));exact HO_365002.out⟩,⟨by (with_reducible repeat (first|apply zk1|apply zk2|apply zk3));exact HO_365003.out⟩,⟨by (with_reducible repeat (first|apply zb1|apply zb2|apply zb3));exact BK354.out⟩,⟨by (with_reducible repeat (first|apply zb1|apply zb2|apply zb3));exact BK364.out⟩,⟨by repeat (first|(with_reducible first|exact HB.out|apply zl1|apply zl2|apply zl3|refine below_set ?_ (IsS51.ge HI355.out)|refine below_set ?_ GE354.out|refine below_set ?_ GE364.out)|exact HB.out)⟩⟩
     ·rw [if_neg c67] at H
      have c67b0 : (t398 == 0) = false:=beq_eq_false_iff_ne.mpr c67
      have c67b1 : (t398 != 0) = true:=bne_iff_ne.mpr c67
      have H':=Aside0.mk H
      clear H
      obtain ⟨HGz69,hgz69⟩:=HI355.out
      have hcz69_0:=cellS51_0 HGz69
      have hcz69_1:=cellS51_1 HGz69
      have hcz69_2:=cellS51_2 HGz69
      have hfz69_0:=blk_frozen HGz69 0
      have hfz69_1:=blk_frozen HGz69 1
      have hfz69_2:=blk_frozen HGz69 2
      clear HGz69 hgz69
      go_wp2
      go_meet
      case rel => exact ⟨_,(true),(by first|(with_reducible rfl)|(simp;done)|(simp [*];done)|rfl|(simp only [not_isEmpty_bne])),H',⟨by have:=HJ3.out;first|omega|exact Nat.le_refl _⟩,⟨by (with_reducible repeat (first|apply zk1|apply zk2|apply zk3));exact HO_365001.out⟩,⟨by (with_reducible repeat (first|apply zk1|apply zk2|apply zk3));exact HO_365002.out⟩,⟨by (with_reducible repeat (first|apply zk1|apply zk2|apply zk3));exact HO_365003.out⟩,⟨by (with_reducible repeat (first|apply zb1|apply zb2|apply zb3));exact BK354.out⟩,⟨by (with_reducible repeat (first|apply zb1|apply zb2|apply zb3));exact BK364.out⟩,⟨by repeat (first|(with_reducible first|exact HB.out|apply zl1|apply zl2|apply zl3|refine below_set ?_ (IsS51.ge HI355.out)|refine below_set ?_ GE354.out|refine below_set ?_ GE364.out)|exact HB.out)⟩⟩
    ·rw [if_neg c66] at H
     have c66b0 : (x356002_3 == 0) = false:=beq_eq_false_iff_ne.mpr c66
     have c66b1 : (x356002_3 != 0) = true:=bne_iff_ne.mpr c66
     (first|rw [c66b0]|(simp only [i64_w,i32_w];rw [c66b0])|skip)
     have H':=Aside0.mk H
     clear H
     obtain ⟨HGz70,hgz70⟩:=HI355.out
     have hcz70_0:=cellS51_0 HGz70
     have hcz70_1:=cellS51_1 HGz70
     have hcz70_2:=cellS51_2 HGz70
     have hfz70_0:=blk_frozen HGz70 0
     have hfz70_1:=blk_frozen HGz70 1
     have hfz70_2:=blk_frozen HGz70 2
     clear HGz70 hgz70
     go_wp2
     go_meet
     case rel => exact ⟨_,(true),(by first|(with_reducible rfl)|(simp;done)|(simp [*];done)|rfl|(simp only [not_isEmpty_bne])),H',⟨by have:=HJ3.out;first|omega|exact Nat.le_refl _⟩,⟨by (with_reducible repeat (first|apply zk1|apply zk2|apply zk3));exact HO_365001.out⟩,⟨by (with_reducible repeat (first|apply zk1|apply zk2|apply zk3));exact HO_365002.out⟩,⟨by (with_reducible repeat (first|apply zk1|apply zk2|apply zk3));exact HO_365003.out⟩,⟨by (with_reducible repeat (first|apply zb1|apply zb2|apply zb3));exact BK354.out⟩,⟨by (with_reducible repeat (first|apply zb1|apply zb2|apply zb3));exact BK364.out⟩,⟨by repeat (first|(with_reducible first|exact HB.out|apply zl1|apply zl2|apply zl3|refine below_set ?_ (IsS51.ge HI355.out)|refine below_set ?_ GE354.out|refine below_set ?_ GE364.out)|exact HB.out)⟩⟩
   case rest =>
    clear HC58
    try clear c1
    try clear c2
    try clear p2
    try clear c3
    try clear c4
    try clear c5
    try clear c6
    try clear p6
    try clear c7
    try clear c10
    try clear c10b0
    try clear c10b1
    try clear c11
    try clear c12
    try clear c15
    try clear c15b0
    try clear c17
    try clear c20
    try clear c21
    try clear c22
    try clear c23
    try clear c24
    try clear c30
    try clear c32
    try clear c33
    try clear c39
    try clear c39b0
    try clear c41
    try clear c44
    try clear c45
    try clear hcz13_0 hcz13_1 hcz13_2 hcz13_3 hcz16_0 hcz16_1 hcz16_2 hcz25_0 hcz25_1 hcz25_2 hcz25_3 hcz28_0 hcz28_1 hcz28_2 hcz28_3 hcz34_0 hcz34_1 hcz34_2 hcz34_3
    try clear c48
    try clear c49
    try clear c59
    try clear c60
    try clear p64
    try clear c66
    try clear c66b0
    try clear c66b1
    try clear c67
    try clear c67b0
    try clear c67b1
    try clear hcz37_0 hcz37_1 hcz37_2 hcz37_3 hcz40_0 hcz40_1 hcz40_2 hcz50_0 hcz50_1 hcz50_2 hcz50_3 hcz53_0 hcz53_1 hcz53_2 hcz53_3 hcz56_0 hcz56_1 hcz56_2 hcz56_3 hcz61_0 hcz61_1 hcz61_2 hcz61_3 hcz68_0 hcz68_1 hcz68_2 hcz69_0 hcz69_1 hcz69_2 hcz70_0
    try clear hfz13_0 hfz13_1 hfz13_2 hfz13_3 hfz16_0 hfz16_1 hfz16_2 hfz25_0 hfz25_1 hfz25_2 hfz25_3 hfz28_0 hfz28_1 hfz28_2 hfz28_3 hfz34_0 hfz34_1 hfz34_2 hfz34_3 hfz37_0 hfz37_1 hfz37_2 hfz37_3 hfz40_0 hfz40_1 hfz40_2 hfz50_0 hfz50_1
    try clear hcz70_1 hcz70_2
    try clear hfz50_2 hfz50_3 hfz53_0 hfz53_1 hfz53_2 hfz53_3 hfz56_0 hfz56_1 hfz56_2 hfz56_3 hfz61_0 hfz61_1 hfz61_2 hfz61_3 hfz68_0 hfz68_1 hfz68_2 hfz69_0 hfz69_1 hfz69_2 hfz70_0 hfz70_1 hfz70_2
    try clear p2
    try clear p6
    obtain ⟨kq,x106_57,rfl,HA,HJ57,HO_365001,HO_365002,HO_365003,BK354,BK364,HB⟩:=hcut
    cases kq with
    | zero => exact absurd HA.out (by simp [factotumref09_Read.j5])
    | succ kj57 =>
     have H:=HA.out
     clear HA
     simp only [factotumref09_Read.j5] at H
     by_cases c71 : x106_57 = true
     ·subst c71
      have H1 : (some (false,([] : List (S44)),([] : List ByteArray),([] : List Int),10)) = some (r1,r2,r3,r4,r5):=by rw [if_pos rfl] at H;exact H
      clear H
      have H:=H1
      clear H1
      simp only [Option.some.injEq,Prod.mk.injEq] at H
      obtain ⟨rfl,rfl,rfl,rfl,rfl⟩:=H
      have hnb72:=NB354_364.out
      have hnc72:=NB364_354.out
      have hcz73_0 : wc.cell? ⟨gb354,0,none⟩ = some (.bool false):=(blk_cell BK354.out 0).trans rfl
      have hcz73_1 : wc.cell? ⟨gb354,1,none⟩ = some (.slice none 0 0):=(blk_cell BK354.out 1).trans rfl
      have hcz73_2 : wc.cell? ⟨gb354,2,none⟩ = some (.slice none 0 0):=(blk_cell BK354.out 2).trans rfl
      have hcz73_3 : wc.cell? ⟨gb354,3,none⟩ = some (.slice none 0 0):=(blk_cell BK354.out 3).trans rfl
      have hfz73_0:=blk_frozen BK354.out 0
      have hfz73_1:=blk_frozen BK354.out 1
      have hfz73_2:=blk_frozen BK354.out 2
      have hfz73_3:=blk_frozen BK354.out 3
      go_wp2
      refine bodyPost_ret (results_ct rfl _ _ gb354 27 #[.bool false,.slice none 0 0,.slice none 0 0,.slice none 0 0] (0,0) _ rfl (by (with_reducible repeat (first|apply zb1|apply zb2|apply zb3));refine blk_put (cs:=#[.bool false,.slice none 0 0,.slice none 0 0,.slice none 0 0]) ?_ 3 _ rfl;(with_reducible repeat (first|apply zb1|apply zb2|apply zb3));refine blk_put (cs:=#[.bool false,.slice none 0 0,.slice none 0 0,.slice none 0 0]) ?_ 2 _ rfl;(with_reducible repeat (first|apply zb1|apply zb2|apply zb3));refine blk_put (cs:=#[.bool false,.slice none 0 0,.slice none 0 0,.slice none 0 0]) ?_ 1 _ rfl;(with_reducible repeat (first|apply zb1|apply zb2|apply zb3));refine blk_put (cs:=#[.bool false,.slice none 0 0,.slice none 0 0,.slice none 0 0]) ?_ 0 _ rfl;(with_reducible repeat (first|apply zb1|apply zb2|apply zb3));exact BK354.out) Tryd.underlying27 rfl (by kernel_rfl)) rfl ?_
      exact ⟨_,_,_,by first|(with_reducible rfl)|(simp only [isEmpty_bne,Bool.not_not] <;> rfl)|rfl|(simp [*,errW_none,errW_some] <;> rfl),by first|exact Kd.R_nil _ _ _ _ _|exact Kd.N_nil _ _ _ _ _|exact Kd.V_nil _ _ _ _ _|exact Kd.Q_nil _ _ _ _ _|exact Kd.S_nil _ _ _ _ _,by first|exact Kd.R_nil _ _ _ _ _|exact Kd.N_nil _ _ _ _ _|exact Kd.V_nil _ _ _ _ _|exact Kd.Q_nil _ _ _ _ _|exact Kd.S_nil _ _ _ _ _,by first|exact Kd.R_nil _ _ _ _ _|exact Kd.N_nil _ _ _ _ _|exact Kd.V_nil _ _ _ _ _|exact Kd.Q_nil _ _ _ _ _|exact Kd.S_nil _ _ _ _ _,by repeat (first|(with_reducible first|exact HB.out|apply zl1|apply zl2|apply zl3|refine below_set ?_ GE354.out|refine below_set ?_ GE364.out)|exact HB.out)⟩
     ·replace c71:=Bool.eq_false_iff.mpr c71
      subst c71
      have H1 : (some (x365000_3,x365001_3,x365002_3,x365003_3,0)) = some (r1,r2,r3,r4,r5):=by rw [if_neg (show ¬ (false = true) by decide)] at H;exact H
      clear H
      have H:=H1
      clear H1
      simp only [Option.some.injEq,Prod.mk.injEq] at H
      obtain ⟨rfl,rfl,rfl,rfl,rfl⟩:=H
      have hnb74:=NB364_354.out
      have hnc74:=NB354_364.out
      have hcz75_0 : wc.cell? ⟨gb364,0,none⟩ = some (.bool x365000_3):=(blk_cell BK364.out 0).trans rfl
      have hcz75_1 : wc.cell? ⟨gb364,1,none⟩ = some (.slice Ao62 x365001_3.length co62):=(blk_cell BK364.out 1).trans rfl
      have hcz75_2 : wc.cell? ⟨gb364,2,none⟩ = some (.slice Ao63 x365002_3.length co63):=(blk_cell BK364.out 2).trans rfl
      have hcz75_3 : wc.cell? ⟨gb364,3,none⟩ = some (.slice Ao64 x365003_3.length co64):=(blk_cell BK364.out 3).trans rfl
      have hfz75_0:=blk_frozen BK364.out 0
      have hfz75_1:=blk_frozen BK364.out 1
      have hfz75_2:=blk_frozen BK364.out 2
      have hfz75_3:=blk_frozen BK364.out 3
      have hcz76_0 : wc.cell? ⟨gb354,0,none⟩ = some (.bool false):=(blk_cell BK354.out 0).trans rfl
      have hcz76_1 : wc.cell? ⟨gb354,1,none⟩ = some (.slice none 0 0):=(blk_cell BK354.out 1).trans rfl
      have hcz76_2 : wc.cell? ⟨gb354,2,none⟩ = some (.slice none 0 0):=(blk_cell BK354.out 2).trans rfl
      have hcz76_3 : wc.cell? ⟨gb354,3,none⟩ = some (.slice none 0 0):=(blk_cell BK354.out 3).trans rfl
      have hfz76_0:=blk_frozen BK354.out 0
      have hfz76_1:=blk_frozen BK354.out 1
      have hfz76_2:=blk_frozen BK354.out 2
      have hfz76_3:=blk_frozen BK354.out 3
      go_wp2
      refine bodyPost_ret (results_ct rfl _ _ gb354 27 #[.bool x365000_3,.slice Ao62 x365001_3.length co62,.slice Ao63 x365002_3.length co63,.slice Ao64 x365003_3.length co64] (0,0) _ rfl (by (with_reducible repeat (first|apply zb1|apply zb2|apply zb3));refine blk_put (cs:=#[.bool x365000_3,.slice Ao62 x365001_3.length co62,.slice Ao63 x365002_3.length co63,.slice none 0 0]) ?_ 3 _ rfl;(with_reducible repeat (first|apply zb1|apply zb2|apply zb3));refine blk_put (cs:=#[.bool x365000_3,.slice Ao62 x365001_3.length co62,.slice none 0 0,.slice none 0 0]) ?_ 2 _ rfl;(with_reducible repeat (first|apply zb1|apply zb2|apply zb3));refine blk_put (cs:=#[.bool x365000_3,.slice none 0 0,.slice none 0 0,.slice none 0 0]) ?_ 1 _ rfl;(with_reducible repeat (first|apply zb1|apply zb2|apply zb3));refine blk_put (cs:=#[.bool false,.slice none 0 0,.slice none 0 0,.slice none 0 0]) ?_ 0 _ rfl;(with_reducible repeat (first|apply zb1|apply zb2|apply zb3));exact BK354.out) Tryd.underlying27 rfl (by kernel_rfl)) rfl ?_
      exact ⟨_,_,_,by first|(with_reducible rfl)|(simp only [isEmpty_bne,Bool.not_not] <;> rfl)|rfl|(simp [*,errW_none,errW_some] <;> rfl),by (with_reducible repeat (first|apply zk1|apply zk2|apply zk3));exact Kd.R_mono (Kd.R_far (p:=⟨gb354,3,none⟩) (Kd.R_far (p:=⟨gb354,2,none⟩) (Kd.R_far (p:=⟨gb354,1,none⟩) (Kd.R_far (p:=⟨gb354,0,none⟩) (Kd.R_types HO_365001.out BK354.out (by decide)) (fun _ hk => hk.2) (.bool x365000_3)) (fun _ hk => hk.2) (.slice Ao62 x365001_3.length co62)) (fun _ hk => hk.2) (.slice Ao63 x365002_3.length co63)) (fun _ hk => hk.2) (.slice Ao64 x365003_3.length co64)) (fun _ hk => trivial),by (with_reducible repeat (first|apply zk1|apply zk2|apply zk3));exact Kd.R_mono (Kd.R_far (p:=⟨gb354,3,none⟩) (Kd.R_far (p:=⟨gb354,2,none⟩) (Kd.R_far (p:=⟨gb354,1,none⟩) (Kd.R_far (p:=⟨gb354,0,none⟩) (Kd.R_types HO_365002.out BK354.out (by decide)) (fun _ hk => hk.2) (.bool x365000_3)) (fun _ hk => hk.2) (.slice Ao62 x365001_3.length co62)) (fun _ hk => hk.2) (.slice Ao63 x365002_3.length co63)) (fun _ hk => hk.2) (.slice Ao64 x365003_3.length co64)) (fun _ hk => trivial),by (with_reducible repeat (first|apply zk1|apply zk2|apply zk3));exact Kd.R_mono (Kd.R_far (p:=⟨gb354,3,none⟩) (Kd.R_far (p:=⟨gb354,2,none⟩) (Kd.R_far (p:=⟨gb354,1,none⟩) (Kd.R_far (p:=⟨gb354,0,none⟩) (Kd.R_types HO_365003.out BK354.out (by decide)) (fun _ hk => hk.2) (.bool x365000_3)) (fun _ hk => hk.2) (.slice Ao62 x365001_3.length co62)) (fun _ hk => hk.2) (.slice Ao63 x365002_3.length co63)) (fun _ hk => hk.2) (.slice Ao64 x365003_3.length co64)) (fun _ hk => trivial),by repeat (first|(with_reducible first|exact HB.out|apply zl1|apply zl2|apply zl3|refine below_set ?_ GE354.out|refine below_set ?_ GE364.out)|exact HB.out)⟩

end Go.Proofs.YtokjbncjapndgaaDoor.PAll
