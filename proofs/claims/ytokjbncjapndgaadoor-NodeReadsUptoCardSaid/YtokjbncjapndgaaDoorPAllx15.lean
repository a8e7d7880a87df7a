/- Printed walks of the functions that the laws reach: each function, what it computes, and that it does. No conditions. -/
import Derived.Test.YtokjbncjapndgaaDoorPAllx0
import Derived.Test.YtokjbncjapndgaaDoorPAllx8
import Derived.Test.YtokjbncjapndgaaDoorPAllx12
import Derived.Test.YtokjbncjapndgaaDoorPAllx13
import Derived.Test.YtokjbncjapndgaaDoorPAllx14
namespace Go.Proofs.YtokjbncjapndgaaDoor.PAll
open Go.RowKit Go.Proofs.YtokjbncjapndgaaDoor.XW Go.Proofs.YtokjbncjapndgaaDoor.XLib Go.Proofs.YtokjbncjapndgaaDoorW.PrintWords Go.Proofs.YtokjbncjapndgaaDoorW.PrintLast Go.Proofs.YtokjbncjapndgaaDoorW.PrintMore
attribute [local go_sem] max2_int min2_int max_two min_two max_three min_three max_four min_four   -- for this text's walks alone
set_option linter.unusedVariables false
set_option linter.unusedSimpArgs false

/-! ### node_Read: function 6 -/
mutual
def node_Read.j0 : Nat → ByteArray → Int → Int → ByteArray → Int → Bool → List Int → Option (Bool × (List (S44)) × List ByteArray × List Int × Int)
 | 0,_,_,_,_,_,_,_ => none
 | k + 1,x0,x5,x6,x241000,x241001,x248000,x248003 => node_Read.l0 k x0 x5 x6 0 x241000 x241001 x248000 ([] : List (S44)) ([] : List ByteArray) x248003
def node_Read.l0 : Nat → ByteArray → Int → Int → Int → ByteArray → Int → Bool → List (S44) → List ByteArray → List Int → Option (Bool × (List (S44)) × List ByteArray × List Int × Int)
 | 0,_,_,_,_,_,_,_,_,_,_ => none
 | k + 1,x0,x5,x29,x30,x241000,x241001,x248000,x248001,x248002,x248003 => if x30 < x29 then ((pack_Reader_Str.f x241000 x241001 32).bind fun bt254 => (if x248000 = true then ((pack_Reader_Str.f bt254.2.1 bt254.2.2 40).bind fun bt257 => (if x248001.length < 4398046511104 then (node_Read.l0 k x0 x5 x29 (IntKind.u64.wrap (x30 + 1)) bt257.2.1 bt257.2.2 x248000 (x248001 ++ [(⟨bt254.1,bt257.1⟩ : S44)]) x248002 x248003) else (none))) else (if x248002.length < 8796093022208 then ((pack_Reader_Num.f bt254.2.1 bt254.2.2 2).bind fun bt266 => (if x248003.length < 17592186044416 then (node_Read.l0 k x0 x5 x29 (IntKind.u64.wrap (x30 + 1)) bt266.2.1 bt266.2.2 x248000 x248001 (x248002 ++ [bt254.1]) (x248003 ++ [wrap64 (bt266.1)])) else (none))) else (none)))) else ((pack_Reader_Left.f x241000 x241001).bind fun bt272 => ((pack_Reader_Raw.f bt272.2.1 bt272.2.2 bt272.1).bind fun bt275 => (if x5 = 1 then ((pack_Reader_Err.f bt275.2.1 bt275.2.2).bind fun bt278 => (if bt278.1 = 0 then (if (x0.size : Int) = 256 then ((node_right.f k x248000 x248001 x248002 x248003).bind fun t281 => (if t281 = true then ((strings_Trim.f bt275.1 (⟨#[0]⟩ : ByteArray)).bind fun t282 => (node_Read.j2 k (t282.toList != ([] : List UInt8)) x248000 x248001 x248002 x248003)) else (node_Read.j2 k true x248000 x248001 x248002 x248003))) else (node_Read.j2 k true x248000 x248001 x248002 x248003)) else (node_Read.j2 k true x248000 x248001 x248002 x248003))) else (if x5 = 2 then ((pack_Reader_Err.f bt275.2.1 bt275.2.2).bind fun bt283 => (if bt283.1 = 0 then (if (x0.size : Int) = 256 then ((node_right.f k x248000 x248001 x248002 x248003).bind fun t286 => (if t286 = true then ((strings_Trim.f bt275.1 (⟨#[0]⟩ : ByteArray)).bind fun t287 => (node_Read.j2 k (t287.toList != ([] : List UInt8)) x248000 x248001 x248002 x248003)) else (node_Read.j2 k true x248000 x248001 x248002 x248003))) else (node_Read.j2 k true x248000 x248001 x248002 x248003)) else (node_Read.j2 k true x248000 x248001 x248002 x248003))) else (node_Read.j2 k true x248000 x248001 x248002 x248003)))))
def node_Read.j2 : Nat → Bool → Bool → List (S44) → List ByteArray → List Int → Option (Bool × (List (S44)) × List ByteArray × List Int × Int)
 | 0,_,_,_,_,_ => none
 | k + 1,x89,x248000,x248001,x248002,x248003 => if x89 = true then (some (false,([] : List (S44)),([] : List ByteArray),([] : List Int),10)) else (some (x248000,x248001,x248002,x248003,0))
end
def node_Read.f (k : Nat) (a0 : ByteArray) : Option (Bool × (List (S44)) × List ByteArray × List Int × Int):=(pack_From.f a0).bind fun bt238 => ((pack_Reader_Num.f bt238.1 bt238.2 1).bind fun bt241 => ((pack_Reader_Num.f bt241.2.1 bt241.2.2 1).bind fun bt244 => (if bt241.1 = 2 then ((pack_Reader_Num.f bt244.2.1 bt244.2.2 2).bind fun bt248 => (if ([] : List Int).length < 17592186044416 then (node_Read.j0 k a0 bt241.1 bt244.1 bt248.2.1 bt248.2.2 (bt241.1 == 1) (([] : List Int) ++ [wrap64 (bt248.1)])) else (none))) else (node_Read.j0 k a0 bt241.1 bt244.1 bt244.2.1 bt244.2.2 (bt241.1 == 1) ([] : List Int)))))
theorem node_Read.mono_l : ∀ k,(∀ y0 y1 y2 y3 y4 y5 y6,LeO (node_Read.j0 k y0 y1 y2 y3 y4 y5 y6) (node_Read.j0 (k + 1) y0 y1 y2 y3 y4 y5 y6))∧(∀ y0 y1 y2 y3 y4 y5 y6 y7 y8 y9,LeO (node_Read.l0 k y0 y1 y2 y3 y4 y5 y6 y7 y8 y9) (node_Read.l0 (k + 1) y0 y1 y2 y3 y4 y5 y6 y7 y8 y9))∧(∀ y0 y1 y2 y3 y4,LeO (node_Read.j2 k y0 y1 y2 y3 y4) (node_Read.j2 (k + 1) y0 y1 y2 y3 y4))
 | 0 => ⟨fun _ _ _ _ _ _ _ r h => by simp [node_Read.j0] at h,fun _ _ _ _ _ _ _ _ _ _ r h => by simp [node_Read.l0] at h,fun _ _ _ _ _ r h => by simp [node_Read.j2] at h⟩
 | k + 1 => by
  obtain ⟨ih0,ih1,ih2⟩:=node_Read.mono_l k
  refine ⟨?_,?_,?_⟩
  ·intro y0 y1 y2 y3 y4 y5 y6
   unfold node_Read.j0
   repeat' first
   | (with_reducible exact ih0 _ _ _ _ _ _ _)
   | (with_reducible exact ih1 _ _ _ _ _ _ _ _ _ _)
   | (with_reducible exact ih2 _ _ _ _ _)
   | (with_reducible exact node_right.mono _ _ _ _ _)
   | (with_reducible exact LeO.refl _)
   | (with_reducible exact LeO.none _)
   | (with_reducible refine LeO.ite ?_ ?_)
   | (with_reducible refine LeO.bind ?_ (fun _ => ?_))
   | exact ih0 _ _ _ _ _ _ _
   | exact ih1 _ _ _ _ _ _ _ _ _ _
   | exact ih2 _ _ _ _ _
   | exact node_right.mono _ _ _ _ _
   | exact LeO.none _
   | refine LeO.ite ?_ ?_
   | refine LeO.bind ?_ (fun _ => ?_)
  ·intro y0 y1 y2 y3 y4 y5 y6 y7 y8 y9
   unfold node_Read.l0
   repeat' first
   | (with_reducible exact ih0 _ _ _ _ _ _ _)
   | (with_reducible exact ih1 _ _ _ _ _ _ _ _ _ _)
   | (with_reducible exact ih2 _ _ _ _ _)
   | (with_reducible exact node_right.mono _ _ _ _ _)
   | (with_reducible exact LeO.refl _)
   | (with_reducible exact LeO.none _)
   | (with_reducible refine LeO.ite ?_ ?_)
   | (with_reducible refine LeO.bind ?_ (fun _ => ?_))
   | exact ih0 _ _ _ _ _ _ _
   | exact ih1 _ _ _ _ _ _ _ _ _ _
   | exact ih2 _ _ _ _ _
   | exact node_right.mono _ _ _ _ _
   | exact LeO.none _
   | refine LeO.ite ?_ ?_
   | refine LeO.bind ?_ (fun _ => ?_)
  ·intro y0 y1 y2 y3 y4
   unfold node_Read.j2
   repeat' first
   | (with_reducible exact ih0 _ _ _ _ _ _ _)
   | (with_reducible exact ih1 _ _ _ _ _ _ _ _ _ _)
   | (with_reducible exact ih2 _ _ _ _ _)
   | (with_reducible exact node_right.mono _ _ _ _ _)
   | (with_reducible exact LeO.refl _)
   | (with_reducible exact LeO.none _)
   | (with_reducible refine LeO.ite ?_ ?_)
   | (with_reducible refine LeO.bind ?_ (fun _ => ?_))
   | exact ih0 _ _ _ _ _ _ _
   | exact ih1 _ _ _ _ _ _ _ _ _ _
   | exact ih2 _ _ _ _ _
   | exact node_right.mono _ _ _ _ _
   | exact LeO.none _
   | refine LeO.ite ?_ ?_
   | refine LeO.bind ?_ (fun _ => ?_)
theorem node_Read.mono : ∀ a0 k,LeO (node_Read.f k a0) (node_Read.f (k + 1) a0):=by
 intro a0 k
 obtain ⟨ih0,ih1,ih2⟩:=node_Read.mono_l k
 unfold node_Read.f
 repeat' first
   | (with_reducible exact ih0 _ _ _ _ _ _ _)
   | (with_reducible exact ih1 _ _ _ _ _ _ _ _ _ _)
   | (with_reducible exact ih2 _ _ _ _ _)
   | (with_reducible exact node_right.mono _ _ _ _ _)
   | (with_reducible exact LeO.refl _)
   | (with_reducible exact LeO.none _)
   | (with_reducible refine LeO.ite ?_ ?_)
   | (with_reducible refine LeO.bind ?_ (fun _ => ?_))
   | exact ih0 _ _ _ _ _ _ _
   | exact ih1 _ _ _ _ _ _ _ _ _ _
   | exact ih2 _ _ _ _ _
   | exact node_right.mono _ _ _ _ _
   | exact LeO.none _
   | refine LeO.ite ?_ ?_
   | refine LeO.bind ?_ (fun _ => ?_)
def node_Read.T5 : Bool × List (List Nat × List Nat):=(true,[([],[]),([0],[0]),([],[]),([2],[2]),([3],[3]),([4],[4]),([1,5,3],[1,5]),([0,1,2,3,4,5,6],[]),([7,6,6,0,1,2,3,4,5,6],[6,7])])
def node_Read.B5 : List Nat:=[0,1,0,4,12,28,63,127,255]
theorem node_Read.tab5 : rtab .any (opsOf Tryd.f6 5) = node_Read.T5:=by kernel_rfl
theorem node_Read.bits5 : waitsOk node_Read.T5.2 node_Read.B5 = true:=by kernel_rfl
def node_Read.T10 : Bool × List (List Nat × List Nat):=(true,[([],[]),([0],[0]),([],[]),([],[]),([3],[3]),([2,4],[2,4]),([5],[5]),([1,6,4],[1,6]),([0,1,2,3,4,5,6,7],[]),([8,7,7,0,1,2,3,4,5,6,7],[7,8])])
def node_Read.B10 : List Nat:=[0,1,0,0,8,28,60,127,255,511]
theorem node_Read.tab10 : rtab .any (opsOf Tryd.f6 10) = node_Read.T10:=by kernel_rfl
theorem node_Read.bits10 : waitsOk node_Read.T10.2 node_Read.B10 = true:=by kernel_rfl
def node_Read.T12 : Bool × List (List Nat × List Nat):=(true,[([],[]),([0],[0]),([],[]),([2],[2]),([3],[3]),([4],[4]),([1,5,3],[1,5]),([0,1,2,3,4,5,6],[]),([7,6,6,0,1,2,3,4,5,6],[6,7])])
def node_Read.B12 : List Nat:=[0,1,0,4,12,28,63,127,255]
theorem node_Read.tab12 : rtab .any (opsOf Tryd.f6 12) = node_Read.T12:=by kernel_rfl
theorem node_Read.bits12 : waitsOk node_Read.T12.2 node_Read.B12 = true:=by kernel_rfl
set_option maxHeartbeats 64000000 in
set_option maxRecDepth 100000 in
theorem node_Read.calls (k : Nat) (a0 : ByteArray) (r1 : Bool) (r2 : List (S44)) (r3 : List ByteArray) (r4 : List Int) (r5 : Int) (w : World) (h : node_Read.f k a0 = some (r1,r2,r3,r4,r5)) :
  Calls Tryd.prog 6 #[.string a0] w fun e w' => ∃ v1_ v2_ v3_ : Value,e = .returned (.tuple #[.agg #[.bool r1,v1_,v2_,v3_],.int .i64 r5])∧Kd.R k44 44 w' w.heap.size (fun _ => True) v1_ r2∧Kd.R Kd.string 9 w' w.heap.size (fun _ => True) v2_ r3∧Kd.R (Kd.int .i64) 3 w' w.heap.size (fun _ => True) v3_ r4∧Below w.heap.size w w':=by
 have hu27:=Tryd.underlying27
 have hu44:=Tryd.underlying44
 have HB:=Aside0.mk (Below.refl w.heap.size w)
 have H : ((pack_From.f a0).bind fun bt238 => ((pack_Reader_Num.f bt238.1 bt238.2 1).bind fun bt241 => ((pack_Reader_Num.f bt241.2.1 bt241.2.2 1).bind fun bt244 => (if bt241.1 = 2 then ((pack_Reader_Num.f bt244.2.1 bt244.2.2 2).bind fun bt248 => (if ([] : List Int).length < 17592186044416 then (node_Read.j0 k a0 bt241.1 bt244.1 bt248.2.1 bt248.2.2 (bt241.1 == 1) (([] : List Int) ++ [wrap64 (bt248.1)])) else (none))) else (node_Read.j0 k a0 bt241.1 bt244.1 bt244.2.1 bt244.2.2 (bt241.1 == 1) ([] : List Int)))))) = some (r1,r2,r3,r4,r5):=h
 clear h
 replace H:=Option.bind_eq_some_iff.mp H
 obtain ⟨⟨t238,t239⟩,A20,H⟩:=H
 replace H : ((pack_Reader_Num.f t238 t239 1).bind fun bt241 => ((pack_Reader_Num.f bt241.2.1 bt241.2.2 1).bind fun bt244 => (if bt241.1 = 2 then ((pack_Reader_Num.f bt244.2.1 bt244.2.2 2).bind fun bt248 => (if ([] : List Int).length < 17592186044416 then (node_Read.j0 k a0 bt241.1 bt244.1 bt248.2.1 bt248.2.2 (bt241.1 == 1) (([] : List Int) ++ [wrap64 (bt248.1)])) else (none))) else (node_Read.j0 k a0 bt241.1 bt244.1 bt244.2.1 bt244.2.2 (bt241.1 == 1) ([] : List Int))))) = some (r1,r2,r3,r4,r5):=H
 have A2:=Aside0.mk A20
 clear A20
 replace H:=Option.bind_eq_some_iff.mp H
 obtain ⟨⟨t241,t242,t243⟩,A30,H⟩:=H
 replace H : ((pack_Reader_Num.f t242 t243 1).bind fun bt244 => (if t241 = 2 then ((pack_Reader_Num.f bt244.2.1 bt244.2.2 2).bind fun bt248 => (if ([] : List Int).length < 17592186044416 then (node_Read.j0 k a0 t241 bt244.1 bt248.2.1 bt248.2.2 (t241 == 1) (([] : List Int) ++ [wrap64 (bt248.1)])) else (none))) else (node_Read.j0 k a0 t241 bt244.1 bt244.2.1 bt244.2.2 (t241 == 1) ([] : List Int)))) = some (r1,r2,r3,r4,r5):=H
 have A3:=Aside0.mk A30
 clear A30
 replace H:=Option.bind_eq_some_iff.mp H
 obtain ⟨⟨t244,t245,t246⟩,A40,H⟩:=H
 replace H : (if t241 = 2 then ((pack_Reader_Num.f t245 t246 2).bind fun bt248 => (if ([] : List Int).length < 17592186044416 then (node_Read.j0 k a0 t241 t244 bt248.2.1 bt248.2.2 (t241 == 1) (([] : List Int) ++ [wrap64 (bt248.1)])) else (none))) else (node_Read.j0 k a0 t241 t244 t245 t246 (t241 == 1) ([] : List Int))) = some (r1,r2,r3,r4,r5):=H
 have A4:=Aside0.mk A40
 clear A40
 have HC5:=Aside0.mk H
 clear H
 go_enter Tryd.func6,Tryd.ntmps6
 go_upto_if 20 with (first|((with_reducible refine gate_dst (N:=2) rfl ?_);(try (refine gate_guard (by rfl) ?_;dsimp only));refine box_event ?hg (N:=2) ?hd (cs:=#[.bool false,.slice none 0 0,.slice none 0 0,.slice none 0 0]) (t:=27) ?hr ?_;(case hd => rfl);(case hg => rfl);(case hr => first|(go_simp;done)|(go_simp;rfl));intro gb237 hg w6 hbox hb;have BK237:=Aside0.mk (hbox);have GW237:=Aside0.mk ((by rw [hg];exact (below_size (by repeat (first|(with_reducible first|exact HB.out|apply zl1|apply zl2|apply zl3)|exact HB.out))) : w.heap.size ≤ gb237));have GE237:=Aside0.mk ((by rw [hg];exact (below_size (by repeat (first|(with_reducible first|exact HB.out|apply zl1|apply zl2|apply zl3)|exact HB.out))) : w.heap.size ≤ gb237));replace HB:=Aside0.mk (below_step (by repeat (first|(with_reducible first|exact HB.out|apply zl1|apply zl2|apply zl3)|exact HB.out)) hb);clear hb hbox hg)|((with_reducible refine gate_callee (f:=12) rfl ?_);refine goesL_ (some 11) rfl rfl Tryd.func12 (by kernel_rfl) rfl #[.string a0] rfl (by (try simp only [List.map_toArray,List.map_cons,List.map_nil]);first|done|rfl|(simp only [List.length_drop,List.length_take];rfl)|(simp (disch:=omega) only [u64_in];rfl)) ?_;(with_reducible refine (pack_From.calls a0 t238 t239 w _ ?side1 A2.out).mono ?_);(case side1 => repeat (first|(with_reducible first|exact HB.out|apply zl1|apply zl2|apply zl3|refine below_set ?_ GE237.out)|exact HB.out));rintro e w7 ⟨g240,rfl,hi,hb,hb2⟩;refine ⟨_,rfl,?_⟩;replace HB:=Aside0.mk (hb);have HI240:=Aside0.mk (hi);have NB240_237:=Aside0.mk (IsS62.ne_blk hi (blk_below (g:=gb237) (o:=.cells #[.bool false,.slice none 0 0,.slice none 0 0,.slice none 0 0] 27 (0,0)) (by (with_reducible repeat (first|apply zb1|apply zb2|apply zb3));exact BK237.out) hb2) (by decide));have NB237_240:=Aside0.mk (Ne.symm (IsS62.ne_blk hi (blk_below (g:=gb237) (o:=.cells #[.bool false,.slice none 0 0,.slice none 0 0,.slice none 0 0] 27 (0,0)) (by (with_reducible repeat (first|apply zb1|apply zb2|apply zb3));exact BK237.out) hb2) (by decide)));replace BK237:=Aside0.mk (blk_below (g:=gb237) (o:=.cells #[.bool false,.slice none 0 0,.slice none 0 0,.slice none 0 0] 27 (0,0)) (by (with_reducible repeat (first|apply zb1|apply zb2|apply zb3));exact BK237.out) hb2);(try clear hb);(try clear hb2);(try clear hi))|((with_reducible refine gate_callee (f:=13) rfl ?_);refine goesL_ (some 13) rfl rfl Tryd.func13 (by kernel_rfl) rfl #[.pointer (some ⟨g240,0,none⟩),.int .i64 1] rfl (by (try simp only [List.map_toArray,List.map_cons,List.map_nil]);first|done|rfl|(simp only [List.length_drop,List.length_take];rfl)|(simp (disch:=omega) only [u64_in];rfl)) ?_;(with_reducible refine (pack_Reader_Num.calls g240 t238 t239 1 t241 t242 t243 w _ ?side1 ?side2 A3.out).mono ?_);(case side1 => repeat (first|(with_reducible first|exact HI240.out|apply IsS62.alloc|apply IsS62.drewN|apply IsS62.drew|apply IsS62.set_0|apply IsS62.set_1|refine IsS62.far ?_ NB240_237.out _)|exact HI240.out));(case side2 => repeat (first|(with_reducible first|exact HB.out|apply zl1|apply zl2|apply zl3|refine below_set ?_ (IsS62.ge HI240.out)|refine below_set ?_ GE237.out)|exact HB.out));rintro e w8 ⟨rfl,hi,hb,hk⟩;refine ⟨_,rfl,?_⟩;replace BK237:=Aside0.mk (KeepBut.blk hk (g':=gb237) (o:=.cells #[.bool false,.slice none 0 0,.slice none 0 0,.slice none 0 0] 27 (0,0)) (by (with_reducible repeat (first|apply zb1|apply zb2|apply zb3));exact BK237.out) NB237_240.out (by simp));replace HB:=Aside0.mk (hb);replace HI240:=Aside0.mk (hi);(try clear hb);(try clear hk);(try clear hi))|((with_reducible refine gate_callee (f:=13) rfl ?_);refine goesL_ (some 15) rfl rfl Tryd.func13 (by kernel_rfl) rfl #[.pointer (some ⟨g240,0,none⟩),.int .i64 1] rfl (by (try simp only [List.map_toArray,List.map_cons,List.map_nil]);first|done|rfl|(simp only [List.length_drop,List.length_take];rfl)|(simp (disch:=omega) only [u64_in];rfl)) ?_;(with_reducible refine (pack_Reader_Num.calls g240 t242 t243 1 t244 t245 t246 w _ ?side1 ?side2 A4.out).mono ?_);(case side1 => repeat (first|(with_reducible first|exact HI240.out|apply IsS62.alloc|apply IsS62.drewN|apply IsS62.drew|apply IsS62.set_0|apply IsS62.set_1|refine IsS62.far ?_ NB240_237.out _)|exact HI240.out));(case side2 => repeat (first|(with_reducible first|exact HB.out|apply zl1|apply zl2|apply zl3|refine below_set ?_ (IsS62.ge HI240.out)|refine below_set ?_ GE237.out)|exact HB.out));rintro e w9 ⟨rfl,hi,hb,hk⟩;refine ⟨_,rfl,?_⟩;replace BK237:=Aside0.mk (KeepBut.blk hk (g':=gb237) (o:=.cells #[.bool false,.slice none 0 0,.slice none 0 0,.slice none 0 0] 27 (0,0)) (by (with_reducible repeat (first|apply zb1|apply zb2|apply zb3));exact BK237.out) NB237_240.out (by simp));replace HB:=Aside0.mk (hb);replace HI240:=Aside0.mk (hi);(try clear hb);(try clear hk);(try clear hi))|((with_reducible refine gate_dst (N:=7) rfl ?_);(try (refine gate_guard (by rfl) ?_;dsimp only));refine box_event ?hg (N:=7) ?hd (cs:=#[.bool false,.slice none 0 0,.slice none 0 0,.slice none 0 0]) (t:=27) ?hr ?_;(case hd => rfl);(case hg => rfl);(case hr => first|(go_simp;done)|(go_simp;rfl));intro gb247 hg w10 hbox hb;have BK247:=Aside0.mk (hbox);have GW247:=Aside0.mk ((by rw [hg];exact (below_size (by repeat (first|(with_reducible first|exact HB.out|apply zl1|apply zl2|apply zl3|refine below_set ?_ (IsS62.ge HI240.out)|refine below_set ?_ GE237.out)|exact HB.out))) : w.heap.size ≤ gb247));have GE247:=Aside0.mk ((by rw [hg];exact (below_size (by repeat (first|(with_reducible first|exact HB.out|apply zl1|apply zl2|apply zl3|refine below_set ?_ (IsS62.ge HI240.out)|refine below_set ?_ GE237.out)|exact HB.out))) : w.heap.size ≤ gb247));replace HB:=Aside0.mk (below_step (by repeat (first|(with_reducible first|exact HB.out|apply zl1|apply zl2|apply zl3|refine below_set ?_ (IsS62.ge HI240.out)|refine below_set ?_ GE237.out)|exact HB.out)) hb);have NB237_247:=Aside0.mk ((by rw [hg];exact Nat.ne_of_lt (blk_lt (g:=gb237) (o:=.cells #[.bool false,.slice none 0 0,.slice none 0 0,.slice none 0 0] 27 (0,0)) (by (with_reducible repeat (first|apply zb1|apply zb2|apply zb3));exact BK237.out)) : gb237 ≠ gb247));have NB247_237:=Aside0.mk ((by rw [hg];exact Nat.ne_of_gt (blk_lt (g:=gb237) (o:=.cells #[.bool false,.slice none 0 0,.slice none 0 0,.slice none 0 0] 27 (0,0)) (by (with_reducible repeat (first|apply zb1|apply zb2|apply zb3));exact BK237.out)) : gb247 ≠ gb237));replace BK237:=Aside0.mk (blk_below (g:=gb237) (o:=.cells #[.bool false,.slice none 0 0,.slice none 0 0,.slice none 0 0] 27 (0,0)) (by (with_reducible repeat (first|apply zb1|apply zb2|apply zb3));exact BK237.out) hb);have NB240_247:=Aside0.mk ((by rw [hg];exact Nat.ne_of_lt (IsS62.lt (show IsS62 w _ g240 t245 t246 from by repeat (first|(with_reducible first|exact HI240.out|apply IsS62.alloc|apply IsS62.drewN|apply IsS62.drew|apply IsS62.set_0|apply IsS62.set_1|refine IsS62.far ?_ NB240_237.out _)|exact HI240.out))) : g240 ≠ gb247));have NB247_240:=Aside0.mk ((by rw [hg];exact Nat.ne_of_gt (IsS62.lt (show IsS62 w _ g240 t245 t246 from by repeat (first|(with_reducible first|exact HI240.out|apply IsS62.alloc|apply IsS62.drewN|apply IsS62.drew|apply IsS62.set_0|apply IsS62.set_1|refine IsS62.far ?_ NB240_237.out _)|exact HI240.out))) : gb247 ≠ g240));replace HI240:=Aside0.mk (IsS62.below (by repeat (first|(with_reducible first|exact HI240.out|apply IsS62.alloc|apply IsS62.drewN|apply IsS62.drew|apply IsS62.set_0|apply IsS62.set_1|refine IsS62.far ?_ NB240_237.out _)|exact HI240.out)) hb);clear hb hbox hg;have hnb11:=NB247_237.out;have hnc11:=NB237_247.out;have hnb12:=NB247_240.out;have hnc12:=NB240_247.out;have hcz13_0 : w10.cell? ⟨gb247,0,none⟩ = some (.bool false):=(blk_cell BK247.out 0).trans rfl;have hcz13_1 : w10.cell? ⟨gb247,1,none⟩ = some (.slice none 0 0):=(blk_cell BK247.out 1).trans rfl;have hcz13_2 : w10.cell? ⟨gb247,2,none⟩ = some (.slice none 0 0):=(blk_cell BK247.out 2).trans rfl;have hcz13_3 : w10.cell? ⟨gb247,3,none⟩ = some (.slice none 0 0):=(blk_cell BK247.out 3).trans rfl;have hfz13_0:=blk_frozen BK247.out 0;have hfz13_1:=blk_frozen BK247.out 1;have hfz13_2:=blk_frozen BK247.out 2;have hfz13_3:=blk_frozen BK247.out 3))
 (try simp only [Act.put,List.setIfInBounds_toArray,List.set_cons_zero,List.set_cons_succ])
 go_cut [] (fun wc => ∃ (kq : Nat) (x241000_4 : ByteArray) (x241001_4 : Int) (x248003_4 : List Int) (u248003 : Value),Aside0 (node_Read.j0 kq a0 t241 t244 x241000_4 x241001_4 (t241 == 1) x248003_4 = some (r1,r2,r3,r4,r5))∧Aside0 (kq ≤ k)∧Aside0 (Kd.R (Kd.int .i64) 3 wc w.heap.size (fun _ => True) u248003 x248003_4)∧Aside0 (wc.heap[gb237]? = some (.cells #[.bool false,(.slice none 0 0),(.slice none 0 0),(.slice none 0 0)] 27 (0,0)))∧Aside0 (wc.heap[gb247]? = some (.cells #[.bool (t241 == 1),(.slice none 0 0),(.slice none 0 0),u248003] 27 (0,0)))∧Aside0 (IsS62 w wc g240 x241000_4 x241001_4)∧Aside0 (Below w.heap.size w wc))
 case first =>
  have H:=HC5.out
  clear HC5
  by_cases c14 : t241 = 2
  ·rw [if_pos c14] at H
   have c14b0 : (t241 == 2) = true:=beq_iff_eq.mpr c14
   have c14b1 : (t241 != 2) = false:=bne_eq_false_iff_eq.mpr c14
   clear c14
   (first|rw [c14b0]|(simp only [i64_w,i32_w];rw [c14b0])|skip)
   replace H:=Option.bind_eq_some_iff.mp H
   obtain ⟨⟨t248,t249,t250⟩,A150,H⟩:=H
   replace H : (if ([] : List Int).length < 17592186044416 then (node_Read.j0 k a0 t241 t244 t249 t250 (t241 == 1) (([] : List Int) ++ [wrap64 (t248)])) else (none)) = some (r1,r2,r3,r4,r5):=H
   have A15:=Aside0.mk A150
   clear A150
   by_cases c16 : ([] : List Int).length < 17592186044416
   ·rw [if_pos c16] at H
    have LMc16:=Aside0.mk c16
    clear c16
    obtain ⟨y251,hy251⟩ : ∃ y_ : List Int,y_ = (([] : List Int) ++ [wrap64 (t248)]):=⟨_,rfl⟩
    replace H : (node_Read.j0 k a0 t241 t244 t249 t250 (t241 == 1) y251) = some (r1,r2,r3,r4,r5):=by first|(rw [hy251];with_reducible exact H)|(have H2_:=(Option.bind_some _ _).symm.trans H;rw [hy251];with_reducible exact H2_)|(have H2_:=(Option.bind_some _ _).symm.trans H;with_reducible exact H2_)|with_reducible exact H|(rw [hy251];exact H)|exact H
    have Ny251:=Aside0.mk hy251
    clear hy251
    as_aux_lemma =>
     have H':=Aside0.mk H
     clear H
     try go_wp2
     have n0_ : Aside0 (((((w10.setCell ⟨gb247,0,none⟩ (.bool (t241 == 1))).setCell ⟨gb247,1,none⟩ (.slice none 0 0)).setCell ⟨gb247,2,none⟩ (.slice none 0 0)).setCell ⟨gb247,3,none⟩ (.slice none 0 0)).heap[gb237]? = some (.cells #[.bool false,.slice none 0 0,.slice none 0 0,.slice none 0 0] 27 (0,0))):=⟨by (with_reducible repeat (first|apply zb1|apply zb2|apply zb3));refine blk_far ?_ NB237_247.out _;(with_reducible repeat (first|apply zb1|apply zb2|apply zb3));refine blk_far ?_ NB237_247.out _;(with_reducible repeat (first|apply zb1|apply zb2|apply zb3));refine blk_far ?_ NB237_247.out _;(with_reducible repeat (first|apply zb1|apply zb2|apply zb3));refine blk_far ?_ NB237_247.out _;(with_reducible repeat (first|apply zb1|apply zb2|apply zb3));exact BK237.out⟩
     have n1_ : Aside0 (((((w10.setCell ⟨gb247,0,none⟩ (.bool (t241 == 1))).setCell ⟨gb247,1,none⟩ (.slice none 0 0)).setCell ⟨gb247,2,none⟩ (.slice none 0 0)).setCell ⟨gb247,3,none⟩ (.slice none 0 0)).heap[gb247]? = some (.cells #[.bool (t241 == 1),.slice none 0 0,.slice none 0 0,.slice none 0 0] 27 (0,0))):=⟨by (with_reducible repeat (first|apply zb1|apply zb2|apply zb3));refine blk_put (cs:=#[.bool (t241 == 1),.slice none 0 0,.slice none 0 0,.slice none 0 0]) ?_ 3 _ rfl;(with_reducible repeat (first|apply zb1|apply zb2|apply zb3));refine blk_put (cs:=#[.bool (t241 == 1),.slice none 0 0,.slice none 0 0,.slice none 0 0]) ?_ 2 _ rfl;(with_reducible repeat (first|apply zb1|apply zb2|apply zb3));refine blk_put (cs:=#[.bool (t241 == 1),.slice none 0 0,.slice none 0 0,.slice none 0 0]) ?_ 1 _ rfl;(with_reducible repeat (first|apply zb1|apply zb2|apply zb3));refine blk_put (cs:=#[.bool false,.slice none 0 0,.slice none 0 0,.slice none 0 0]) ?_ 0 _ rfl;(with_reducible repeat (first|apply zb1|apply zb2|apply zb3));exact BK247.out⟩
     have n2_ : Aside0 (IsS62 w ((((w10.setCell ⟨gb247,0,none⟩ (.bool (t241 == 1))).setCell ⟨gb247,1,none⟩ (.slice none 0 0)).setCell ⟨gb247,2,none⟩ (.slice none 0 0)).setCell ⟨gb247,3,none⟩ (.slice none 0 0)) g240 t245 t246):=⟨by repeat (first|(with_reducible first|exact HI240.out|apply IsS62.alloc|apply IsS62.drewN|apply IsS62.drew|apply IsS62.set_0|apply IsS62.set_1|refine IsS62.far ?_ NB240_237.out _|refine IsS62.far ?_ NB240_247.out _)|exact HI240.out)⟩
     have n3_ : Aside0 (Below w.heap.size w ((((w10.setCell ⟨gb247,0,none⟩ (.bool (t241 == 1))).setCell ⟨gb247,1,none⟩ (.slice none 0 0)).setCell ⟨gb247,2,none⟩ (.slice none 0 0)).setCell ⟨gb247,3,none⟩ (.slice none 0 0))):=⟨by repeat (first|(with_reducible first|exact HB.out|apply zl1|apply zl2|apply zl3|refine below_set ?_ (IsS62.ge HI240.out)|refine below_set ?_ GE237.out|refine below_set ?_ GE247.out)|exact HB.out)⟩
     (try clear BK237)
     (try clear BK247)
     (try clear HI240)
     (try clear HB)
     generalize ((((w10.setCell ⟨gb247,0,none⟩ (.bool (t241 == 1))).setCell ⟨gb247,1,none⟩ (.slice none 0 0)).setCell ⟨gb247,2,none⟩ (.slice none 0 0)).setCell ⟨gb247,3,none⟩ (.slice none 0 0)) = w17 at n0_ n1_ n2_ n3_ ⊢
     have BK237:=n0_
     have BK247:=n1_
     have HI240:=n2_
     have HB:=n3_
     clear n0_ n1_ n2_ n3_
     replace BK237:=Aside0.mk (blk_drew BK237.out)
     replace BK247:=Aside0.mk (blk_drew BK247.out)
     replace HI240:=Aside0.mk (IsS62.drew HI240.out)
     replace HB:=Aside0.mk (below_drew1 HB.out)
     refine start_ (n:=9) (S:=fun w' => w'.cell? ⟨gb247,0,none⟩ = some (.bool (t241 == 1))∧w'.cell? ⟨gb247,1,none⟩ = some (.slice none 0 0)∧w'.cell? ⟨gb247,2,none⟩ = some (.slice none 0 0)∧w'.cell? ⟨gb247,3,none⟩ = some (.slice none 0 0)) (ds:=[8]) #[false,false,false,false,false,false,false,false,false] (by kernel_rfl) rfl rfl ⟨(blk_cell BK247.out 0).trans rfl,(blk_cell BK247.out 1).trans rfl,(blk_cell BK247.out 2).trans rfl,(blk_cell BK247.out 3).trans rfl⟩ (fun hHeld => ?_);refine with_tabW node_Read.tab5 node_Read.bits5 (fun HT_ HW_ => ?_)
     generalize w17.drew = w18 at BK237 BK247 HI240 HB hHeld ⊢
     refine pure_ (i:=0) (N:=some 21) (v:=?_) (a':=?_) #[true,false,false,false,false,false,false,false,false] rfl rfl (any_of HT_.out (by kernel_rfl)) (fun _ _ _ h => h) (Or.inl ⟨by rfl,?_⟩) ?_ ?_
     rotate_left
     ·intro w'
      go_simp
      with_reducible rfl
     rotate_left
     ·simp only [Act.put,List.setIfInBounds_toArray,List.set_cons_zero,List.set_cons_succ,i64_w,i32_w]
      rfl
     refine pure_ (i:=2) (N:=some 23) (v:=?_) (a':=?_) #[true,false,true,false,false,false,false,false,false] rfl rfl (any_of HT_.out (by kernel_rfl)) (fun _ _ _ h => h) (Or.inl ⟨by rfl,?_⟩) ?_ ?_
     rotate_left
     ·intro w'
      go_simp
      with_reducible rfl
     rotate_left
     ·simp only [Act.put,List.setIfInBounds_toArray,List.set_cons_zero,List.set_cons_succ,i64_w,i32_w]
      rfl
     refine take_ (i:=1) (N:=some 22) (v:=?_) (a':=?_) #[true,true,true,false,false,false,false,false,false] rfl rfl (take_ofW HT_.out HW_.out (by kernel_rfl)) (fun _ _ _ h => h) (Or.inl ⟨by rfl,?_⟩) hHeld ?_ ?_
     rotate_left
     ·rintro w' ⟨s0,s1,s2,s3⟩
      go_simp
      with_reducible rfl
     rotate_left
     ·simp only [Act.put,List.setIfInBounds_toArray,List.set_cons_zero,List.set_cons_succ,i64_w,i32_w]
      rfl
     refine one_ (i:=3) (N:=some 24) #[true,true,true,true,false,false,false,false,false] rfl rfl (one_of HT_.out (by kernel_rfl)) (by decide) (fun K hK => ?_)
     refine goes_ Tryd.func13 (by kernel_rfl) rfl #[.pointer (some ⟨g240,0,none⟩),.int .i64 2] (by rfl) rfl rfl (by (try simp only [List.map_toArray,List.map_cons,List.map_nil]);first|done|rfl|(simp only [List.length_drop,List.length_take];rfl)|(simp (disch:=omega) only [u64_in];rfl)) ?_
     with_reducible refine (pack_Reader_Num.calls g240 t245 t246 2 t248 t249 t250 w _ ?side1 ?side2 A15.out).mono ?_
     (case side1 => repeat (first|(with_reducible first|exact HI240.out|apply IsS62.alloc|apply IsS62.drewN|apply IsS62.drew|apply IsS62.set_0|apply IsS62.set_1|refine IsS62.far ?_ NB240_237.out _|refine IsS62.far ?_ NB240_247.out _)|exact HI240.out))
     (case side2 => repeat (first|(with_reducible first|exact HB.out|apply zl1|apply zl2|apply zl3|refine below_set ?_ (IsS62.ge HI240.out)|refine below_set ?_ GE237.out|refine below_set ?_ GE247.out)|exact HB.out))
     rintro e w19 ⟨rfl,hi,hb,hk⟩
     refine ⟨_,rfl,?_⟩
     replace BK237:=Aside0.mk (KeepBut.blk hk (g':=gb237) (o:=.cells #[.bool false,.slice none 0 0,.slice none 0 0,.slice none 0 0] 27 (0,0)) (by (with_reducible repeat (first|apply zb1|apply zb2|apply zb3));exact BK237.out) NB237_240.out (by simp))
     replace BK247:=Aside0.mk (KeepBut.blk hk (g':=gb247) (o:=.cells #[.bool (t241 == 1),.slice none 0 0,.slice none 0 0,.slice none 0 0] 27 (0,0)) (by (with_reducible repeat (first|apply zb1|apply zb2|apply zb3));exact BK247.out) NB247_240.out (by simp))
     replace HB:=Aside0.mk (hb)
     replace HI240:=Aside0.mk (hi)
     (try clear hb)
     (try clear hb2)
     (try clear hk)
     (try clear hi)
     refine hK.out _ _ ⟨(blk_cell BK247.out 0).trans rfl,(blk_cell BK247.out 1).trans rfl,(blk_cell BK247.out 2).trans rfl,(blk_cell BK247.out 3).trans rfl⟩ (fun hHeld => ?_)
     clear hK K
     refine norm_ (a':=?_) ?_ ?_
     rotate_left
     ·show Act.put _ (some 24) _ = _
      simp only [Act.put,List.setIfInBounds_toArray,List.set_cons_zero,List.set_cons_succ,i64_w,i32_w]
      rfl
     refine pure_ (i:=4) (N:=some 25) (v:=?_) (a':=?_) #[true,true,true,true,true,false,false,false,false] rfl rfl (any_of HT_.out (by kernel_rfl)) (fun _ _ _ h => h) (Or.inl ⟨by rfl,?_⟩) ?_ ?_
     rotate_left
     ·intro w'
      go_simp
      with_reducible rfl
     rotate_left
     ·simp only [Act.put,List.setIfInBounds_toArray,List.set_cons_zero,List.set_cons_succ,i64_w,i32_w]
      rfl
     refine one_ (i:=5) (N:=some 26) #[true,true,true,true,true,true,false,false,false] rfl rfl (one_of HT_.out (by kernel_rfl)) (by decide) (fun K hK => ?_)
     refine value_ (w1:=?_) (v:=?_) (by rfl) rfl ?_ ?_
     rotate_left 2
     ·go_simp
      constructor
      ·rfl
      ·rfl
     refine hK.out _ _ ⟨(blk_cell (blk_alloc BK247.out _) 0).trans rfl,(blk_cell (blk_alloc BK247.out _) 1).trans rfl,(blk_cell (blk_alloc BK247.out _) 2).trans rfl,(blk_cell (blk_alloc BK247.out _) 3).trans rfl⟩ (fun hHeld => ?_)
     clear hK K
     refine norm_ (a':=?_) ?_ ?_
     rotate_left
     ·show Act.put _ (some 26) _ = _
      simp only [Act.put,List.setIfInBounds_toArray,List.set_cons_zero,List.set_cons_succ,i64_w,i32_w]
      rfl
     refine one_ (i:=6) (N:=some 27) #[true,true,true,true,true,true,true,false,false] rfl rfl (one_of HT_.out (by kernel_rfl)) (by decide) (fun K hK => ?_)
     refine Kd.R_append_step (Kd.int .i64) (w0:=w) w.heap.size (by rfl) (.tmp 22) (.tmp 26) 25 3 (.int .i64 0) 8 rfl Tryd.underlying25 info3 rfl (by decide) (by omega) (.slice none 0 0) ([] : List Int) (wrap64 (t248)) [.int .i64 (wrap64 (t248))] (fun _ => True) (fun _ => False) rfl rfl ?aP (fun _ hk => hk.elim) ?aF ?aO ?aB ?aS ?aL ?_
     (case aP => exact rfl)
     (case aB => exact (by repeat (first|(with_reducible first|exact HB.out|apply zl1|apply zl2|apply zl3|refine below_set ?_ (IsS62.ge HI240.out)|refine below_set ?_ GE237.out|refine below_set ?_ GE247.out)|exact HB.out)))
     (case aF => exact (fun _ _ => trivial))
     (case aO => exact ((Kd.R_nil _ _ _ _ (fun _ => True))))
     (case aS => exact (below_size (by repeat (first|(with_reducible first|exact HB.out|apply zl1|apply zl2|apply zl3|refine below_set ?_ (IsS62.ge HI240.out)|refine below_set ?_ GE237.out|refine below_set ?_ GE247.out)|exact HB.out))))
     (case aL => have:=LMc16.out;omega)
     intro v252 w20 ho hb hg hat
     rw [← Ny251.out] at ho
     replace BK237:=Aside0.mk (blk_grown (g:=gb237) (o:=.cells #[.bool false,.slice none 0 0,.slice none 0 0,.slice none 0 0] 27 (0,0)) (by (with_reducible repeat (first|apply zb1|apply zb2|apply zb3));exact BK237.out) hg (by simp [Value.ownBlock]))
     replace HI240:=Aside0.mk (IsS62.grown (show IsS62 w _ g240 t249 t250 from by repeat (first|(with_reducible first|exact HI240.out|apply IsS62.alloc|apply IsS62.drewN|apply IsS62.drew|apply IsS62.set_0|apply IsS62.set_1|refine IsS62.far ?_ NB240_237.out _|refine IsS62.far ?_ NB240_247.out _)|exact HI240.out)) hg (by simp [Value.ownBlock]))
     replace BK247:=Aside0.mk (blk_grown (g:=gb247) (o:=.cells #[.bool (t241 == 1),.slice none 0 0,.slice none 0 0,.slice none 0 0] 27 (0,0)) (by (with_reducible repeat (first|apply zb1|apply zb2|apply zb3));exact BK247.out) hg (by simp [Value.ownBlock]))
     replace HB:=Aside0.mk (hb)
     have HO253:=Aside0.mk (ho)
     clear ho hb hg hat
     obtain ⟨Ao21,co21,eo21⟩:=Kd.R_slice HO253.out
     (first|subst eo21|(injection eo21 with f1_ f2_ f3_;have f4_:=f1_.symm;have f5_:=f3_.symm;clear f1_ f2_ f3_;subst f4_;subst f5_))
     refine hK.out _ _ ⟨(blk_cell BK247.out 0).trans rfl,(blk_cell BK247.out 1).trans rfl,(blk_cell BK247.out 2).trans rfl,(blk_cell BK247.out 3).trans rfl⟩ (fun hHeld => ?_)
     clear hK K
     refine norm_ (a':=?_) ?_ ?_
     rotate_left
     ·show Act.put _ (some 27) _ = _
      simp only [Act.put,List.setIfInBounds_toArray,List.set_cons_zero,List.set_cons_succ,i64_w,i32_w]
      rfl
     refine pure_ (i:=7) (N:=some 28) (v:=?_) (a':=?_) #[true,true,true,true,true,true,true,true,false] rfl rfl (any_of HT_.out (by kernel_rfl)) (fun _ _ _ h => h) (Or.inl ⟨by rfl,?_⟩) ?_ ?_
     rotate_left
     ·intro w'
      go_simp
      with_reducible rfl
     rotate_left
     ·simp only [Act.put,List.setIfInBounds_toArray,List.set_cons_zero,List.set_cons_succ,i64_w,i32_w]
      rfl
     refine last_ (i:=8) (N:=none) #[true,true,true,true,true,true,true,true,true] rfl rfl (one_of HT_.out (by kernel_rfl)) (by decide) (fun K hK => ?_)
     have hs22 : w20.cell? ⟨gb247,3,none⟩ = some (.slice none 0 0):=(blk_cell BK247.out 3).trans rfl
     have hfs22:=blk_frozen BK247.out 3
     have hns22_0:=NB237_247.out
     have hms22_0:=NB247_237.out
     refine skip_ (w1:=?_) (by rfl) rfl ?_ ?_
     rotate_left
     ·go_simp
      rfl
     refine hK.out _ _ ?_
     clear hK K
     refine done_ (done_of HT_.out (by kernel_rfl)) ?_
     try go_wp2
     go_meet
     case rel => exact ⟨_,(t249),(t250),(y251),(.slice Ao21 y251.length co21),H',⟨by first|omega|exact Nat.le_refl _⟩,⟨by (with_reducible repeat (first|apply zk1|apply zk2|apply zk3));exact Kd.R_mono (Kd.R_far (p:=⟨gb247,3,none⟩) (Kd.R_types HO253.out BK247.out (by decide)) (fun _ hk => hk.2) (.slice Ao21 y251.length co21)) (fun _ hk => trivial)⟩,⟨by (with_reducible repeat (first|apply zb1|apply zb2|apply zb3));refine blk_far ?_ NB237_247.out _;(with_reducible repeat (first|apply zb1|apply zb2|apply zb3));exact BK237.out⟩,⟨by (with_reducible repeat (first|apply zb1|apply zb2|apply zb3));refine blk_put (cs:=#[.bool (t241 == 1),.slice none 0 0,.slice none 0 0,.slice none 0 0]) ?_ 3 _ rfl;(with_reducible repeat (first|apply zb1|apply zb2|apply zb3));exact BK247.out⟩,⟨by repeat (first|(with_reducible first|exact HI240.out|apply IsS62.alloc|apply IsS62.drewN|apply IsS62.drew|apply IsS62.set_0|apply IsS62.set_1|refine IsS62.far ?_ NB240_237.out _|refine IsS62.far ?_ NB240_247.out _)|exact HI240.out)⟩,⟨by repeat (first|(with_reducible first|exact HB.out|apply zl1|apply zl2|apply zl3|refine below_set ?_ (IsS62.ge HI240.out)|refine below_set ?_ GE237.out|refine below_set ?_ GE247.out)|exact HB.out)⟩⟩
   ·rw [if_neg c16] at H
    exact absurd H (by simp)
  ·rw [if_neg c14] at H
   have c14b0 : (t241 == 2) = false:=beq_eq_false_iff_ne.mpr c14
   have c14b1 : (t241 != 2) = true:=bne_iff_ne.mpr c14
   (first|rw [c14b0]|(simp only [i64_w,i32_w];rw [c14b0])|skip)
   as_aux_lemma =>
    have H':=Aside0.mk H
    clear H
    go_wp2
    go_meet
    case rel => exact ⟨_,(t245),(t246),(([] : List Int)),(.slice none 0 0),H',⟨by first|omega|exact Nat.le_refl _⟩,⟨by first|exact Kd.R_nil _ _ _ _ _|exact Kd.N_nil _ _ _ _ _|exact Kd.V_nil _ _ _ _ _|exact Kd.Q_nil _ _ _ _ _|exact Kd.S_nil _ _ _ _ _⟩,⟨by (with_reducible repeat (first|apply zb1|apply zb2|apply zb3));refine blk_far ?_ NB237_247.out _;(with_reducible repeat (first|apply zb1|apply zb2|apply zb3));refine blk_far ?_ NB237_247.out _;(with_reducible repeat (first|apply zb1|apply zb2|apply zb3));refine blk_far ?_ NB237_247.out _;(with_reducible repeat (first|apply zb1|apply zb2|apply zb3));refine blk_far ?_ NB237_247.out _;(with_reducible repeat (first|apply zb1|apply zb2|apply zb3));exact BK237.out⟩,⟨by (with_reducible repeat (first|apply zb1|apply zb2|apply zb3));refine blk_put (cs:=#[.bool (t241 == 1),.slice none 0 0,.slice none 0 0,.slice none 0 0]) ?_ 3 _ rfl;(with_reducible repeat (first|apply zb1|apply zb2|apply zb3));refine blk_put (cs:=#[.bool (t241 == 1),.slice none 0 0,.slice none 0 0,.slice none 0 0]) ?_ 2 _ rfl;(with_reducible repeat (first|apply zb1|apply zb2|apply zb3));refine blk_put (cs:=#[.bool (t241 == 1),.slice none 0 0,.slice none 0 0,.slice none 0 0]) ?_ 1 _ rfl;(with_reducible repeat (first|apply zb1|apply zb2|apply zb3));refine blk_put (cs:=#[.bool false,.slice none 0 0,.slice none 0 0,.slice none 0 0]) ?_ 0 _ rfl;(with_reducible repeat (first|apply zb1|apply zb2|apply zb3));exact BK247.out⟩,⟨by repeat (first|(with_reducible first|exact HI240.out|apply IsS62.alloc|apply IsS62.drewN|apply IsS62.drew|apply IsS62.set_0|apply IsS62.set_1|refine IsS62.far ?_ NB240_237.out _|refine IsS62.far ?_ NB240_247.out _)|exact HI240.out)⟩,⟨by repeat (first|(with_reducible first|exact HB.out|apply zl1|apply zl2|apply zl3|refine below_set ?_ (IsS62.ge HI240.out)|refine below_set ?_ GE237.out|refine below_set ?_ GE247.out)|exact HB.out)⟩⟩
 case rest =>
  clear HC5
  try clear hfz13_0 hfz13_1 hfz13_2 hfz13_3
  try clear hcz13_0 hcz13_1 hcz13_2 hcz13_3
  try clear c1
  try clear p2
  try clear c6
  try clear p6
  try clear c11
  try clear c12
  try clear c13
  try clear c14
  try clear c14b0
  try clear c14b1
  try clear c16
  obtain ⟨kq,x241000_4,x241001_4,x248003_4,u248003,HA,HJ4,HO_248003,BK237,BK247,HI240,HB⟩:=hcut
  cases kq with
  | zero => exact absurd HA.out (by simp [node_Read.j0])
  | succ kj4 =>
   have H:=HA.out
   clear HA
   simp only [node_Read.j0] at H
   have H':=Aside0.mk H
   clear H
   go_wp2
   go_loopg [30] kj4 (fun kq v30 w' => ∃ (x30_2 : Int) (x241000_2 : ByteArray) (x241001_2 : Int) (x248001_2 : List (S44)) (x248002_2 : List ByteArray) (x248003_2 : List Int) (u248001 : Value) (u248002 : Value) (u248003 : Value),v30 = .int .u64 x30_2∧Aside0 (node_Read.l0 kq a0 t241 t244 x30_2 x241000_2 x241001_2 (t241 == 1) x248001_2 x248002_2 x248003_2 = some (r1,r2,r3,r4,r5))∧Aside0 (kq ≤ kj4)∧Aside0 (Kd.R k44 44 w' w.heap.size (fun _ => True) u248001 x248001_2)∧Aside0 (Kd.R Kd.string 9 w' w.heap.size (fun _ => True) u248002 x248002_2)∧Aside0 (Kd.R (Kd.int .i64) 3 w' w.heap.size (fun _ => True) u248003 x248003_2)∧Aside0 (w'.heap[gb237]? = some (.cells #[.bool false,(.slice none 0 0),(.slice none 0 0),(.slice none 0 0)] 27 (0,0)))∧Aside0 (w'.heap[gb247]? = some (.cells #[.bool (t241 == 1),u248001,u248002,u248003] 27 (0,0)))∧Aside0 (IsS62 w w' g240 x241000_2 x241001_2)∧Aside0 (Below w.heap.size w w'))
   case atStart => exact ⟨(0),(x241000_4),(x241001_4),(([] : List (S44))),(([] : List ByteArray)),(x248003_4),(.slice none 0 0),(.slice none 0 0),(u248003),(by first|(with_reducible rfl)|(simp;done)|(simp [*];done)|rfl|(simp only [not_isEmpty_bne])),H',⟨Nat.le_refl _⟩,⟨by first|exact Kd.R_nil _ _ _ _ _|exact Kd.N_nil _ _ _ _ _|exact Kd.V_nil _ _ _ _ _|exact Kd.Q_nil _ _ _ _ _|exact Kd.S_nil _ _ _ _ _⟩,⟨by first|exact Kd.R_nil _ _ _ _ _|exact Kd.N_nil _ _ _ _ _|exact Kd.V_nil _ _ _ _ _|exact Kd.Q_nil _ _ _ _ _|exact Kd.S_nil _ _ _ _ _⟩,⟨by (with_reducible repeat (first|apply zk1|apply zk2|apply zk3));exact HO_248003.out⟩,⟨by (with_reducible repeat (first|apply zb1|apply zb2|apply zb3));exact BK237.out⟩,⟨by (with_reducible repeat (first|apply zb1|apply zb2|apply zb3));exact BK247.out⟩,⟨by repeat (first|(with_reducible first|exact HI240.out|apply IsS62.alloc|apply IsS62.drewN|apply IsS62.drew|apply IsS62.set_0|apply IsS62.set_1|refine IsS62.far ?_ NB240_237.out _|refine IsS62.far ?_ NB240_247.out _)|exact HI240.out)⟩,⟨by repeat (first|(with_reducible first|exact HB.out|apply zl1|apply zl2|apply zl3|refine below_set ?_ (IsS62.ge HI240.out)|refine below_set ?_ GE237.out|refine below_set ?_ GE247.out)|exact HB.out)⟩⟩
   case round =>
    clear H'
    try clear hfz13_0 hfz13_1 hfz13_2 hfz13_3
    try clear hcz13_0 hcz13_1 hcz13_2 hcz13_3
    try clear c1
    try clear p2
    try clear c6
    try clear p6
    try clear c11
    try clear c12
    try clear c13
    try clear c14
    try clear c14b0
    try clear c14b1
    try clear c16
    try clear p2
    try clear p6
    obtain ⟨x30_2,x241000_2,x241001_2,x248001_2,x248002_2,x248003_2,u248001,u248002,u248003,rfl,HA,HK2,HO_248001,HO_248002,HO_248003,BK237,BK247,HI240,HB⟩:=hrel
    cases gk with
    | zero => exact absurd HA.out (by simp [node_Read.l0])
    | succ k2 =>
     have H:=HA.out
     clear HA
     simp only [node_Read.l0] at H
     by_cases c23 : x30_2 < t244
     ·rw [if_pos c23] at H
      have c23b0 : decide (x30_2 < t244) = true:=decide_eq_true c23
      clear c23
      replace H:=Option.bind_eq_some_iff.mp H
      obtain ⟨⟨t254,t255,t256⟩,A240,H⟩:=H
      replace H : (if (t241 == 1) = true then ((pack_Reader_Str.f t255 t256 40).bind fun bt257 => (if x248001_2.length < 4398046511104 then (node_Read.l0 k2 a0 t241 t244 (IntKind.u64.wrap (x30_2 + 1)) bt257.2.1 bt257.2.2 (t241 == 1) (x248001_2 ++ [(⟨t254,bt257.1⟩ : S44)]) x248002_2 x248003_2) else (none))) else (if x248002_2.length < 8796093022208 then ((pack_Reader_Num.f t255 t256 2).bind fun bt266 => (if x248003_2.length < 17592186044416 then (node_Read.l0 k2 a0 t241 t244 (IntKind.u64.wrap (x30_2 + 1)) bt266.2.1 bt266.2.2 (t241 == 1) x248001_2 (x248002_2 ++ [t254]) (x248003_2 ++ [wrap64 (bt266.1)])) else (none))) else (none))) = some (r1,r2,r3,r4,r5):=H
      have A24:=Aside0.mk A240
      clear A240
      by_cases c25 : (t241 == 1) = true
      ·rw [if_pos c25] at H
       have c25b0 : (t241 == 1) = true:=c25
       (try (have c25b1 : decide (t241 = 1) = true:=by simpa using c25))
       (try (have c25b2 : (t241 == 1) = true:=by simpa using c25))
       clear c25
       replace H:=Option.bind_eq_some_iff.mp H
       obtain ⟨⟨t257,t258,t259⟩,A260,H⟩:=H
       replace H : (if x248001_2.length < 4398046511104 then (node_Read.l0 k2 a0 t241 t244 (IntKind.u64.wrap (x30_2 + 1)) t258 t259 (t241 == 1) (x248001_2 ++ [(⟨t254,t257⟩ : S44)]) x248002_2 x248003_2) else (none)) = some (r1,r2,r3,r4,r5):=H
       have A26:=Aside0.mk A260
       clear A260
       by_cases c27 : x248001_2.length < 4398046511104
       ·rw [if_pos c27] at H
        have LMc27:=Aside0.mk c27
        clear c27
        obtain ⟨y260,hy260⟩ : ∃ y_ : List (S44),y_ = (x248001_2 ++ [(⟨t254,t257⟩ : S44)]):=⟨_,rfl⟩
        replace H : (node_Read.l0 k2 a0 t241 t244 (IntKind.u64.wrap (x30_2 + 1)) t258 t259 (t241 == 1) y260 x248002_2 x248003_2) = some (r1,r2,r3,r4,r5):=by first|(rw [hy260];with_reducible exact H)|(have H2_:=(Option.bind_some _ _).symm.trans H;rw [hy260];with_reducible exact H2_)|(have H2_:=(Option.bind_some _ _).symm.trans H;with_reducible exact H2_)|with_reducible exact H|(rw [hy260];exact H)|exact H
        have Ny260:=Aside0.mk hy260
        clear hy260
        as_aux_lemma =>
         have H':=Aside0.mk H
         clear H
         try go_wp2_with (first|((with_reducible refine gate_callee (f:=14) rfl ?_);refine goesL_ (some 33) rfl rfl Tryd.func14 (by kernel_rfl) rfl #[.pointer (some ⟨g240,0,none⟩),.int .i64 32] rfl (by (try simp only [List.map_toArray,List.map_cons,List.map_nil]);first|done|rfl|(simp only [List.length_drop,List.length_take];rfl)|(simp (disch:=omega) only [u64_in];rfl)) ?_;(with_reducible refine (pack_Reader_Str.calls g240 x241000_2 x241001_2 32 t254 t255 t256 w _ ?side1 ?side2 A24.out).mono ?_);(case side1 => repeat (first|(with_reducible first|exact HI240.out|apply IsS62.alloc|apply IsS62.drewN|apply IsS62.drew|apply IsS62.set_0|apply IsS62.set_1|refine IsS62.far ?_ NB240_237.out _|refine IsS62.far ?_ NB240_247.out _)|exact HI240.out));(case side2 => repeat (first|(with_reducible first|exact HB.out|apply zl1|apply zl2|apply zl3|refine below_set ?_ (IsS62.ge HI240.out)|refine below_set ?_ GE237.out|refine below_set ?_ GE247.out)|exact HB.out));rintro e w28 ⟨rfl,hi,hb,hk⟩;refine ⟨_,rfl,?_⟩;replace HO_248001:=Aside0.mk (Kd.R_mono (Kd.R_keep (IsS62.apart (show IsS62 w _ g240 x241000_2 x241001_2 from by repeat (first|(with_reducible first|exact HI240.out|apply IsS62.alloc|apply IsS62.drewN|apply IsS62.drew|apply IsS62.set_0|apply IsS62.set_1|refine IsS62.far ?_ NB240_237.out _|refine IsS62.far ?_ NB240_247.out _)|exact HI240.out)) (by (with_reducible repeat (first|apply zk1|apply zk2|apply zk3));exact HO_248001.out) (by decide)) hk (fun _ h => h.2)) (fun _ h => h.1));replace HO_248002:=Aside0.mk (Kd.R_mono (Kd.R_keep (IsS62.apart (show IsS62 w _ g240 x241000_2 x241001_2 from by repeat (first|(with_reducible first|exact HI240.out|apply IsS62.alloc|apply IsS62.drewN|apply IsS62.drew|apply IsS62.set_0|apply IsS62.set_1|refine IsS62.far ?_ NB240_237.out _|refine IsS62.far ?_ NB240_247.out _)|exact HI240.out)) (by (with_reducible repeat (first|apply zk1|apply zk2|apply zk3));exact HO_248002.out) (by decide)) hk (fun _ h => h.2)) (fun _ h => h.1));replace HO_248003:=Aside0.mk (Kd.R_mono (Kd.R_keep (IsS62.apart (show IsS62 w _ g240 x241000_2 x241001_2 from by repeat (first|(with_reducible first|exact HI240.out|apply IsS62.alloc|apply IsS62.drewN|apply IsS62.drew|apply IsS62.set_0|apply IsS62.set_1|refine IsS62.far ?_ NB240_237.out _|refine IsS62.far ?_ NB240_247.out _)|exact HI240.out)) (by (with_reducible repeat (first|apply zk1|apply zk2|apply zk3));exact HO_248003.out) (by decide)) hk (fun _ h => h.2)) (fun _ h => h.1));replace BK237:=Aside0.mk (KeepBut.blk hk (g':=gb237) (o:=.cells #[.bool false,.slice none 0 0,.slice none 0 0,.slice none 0 0] 27 (0,0)) (by (with_reducible repeat (first|apply zb1|apply zb2|apply zb3));exact BK237.out) NB237_240.out (by simp));replace BK247:=Aside0.mk (KeepBut.blk hk (g':=gb247) (o:=.cells #[.bool (t241 == 1),u248001,u248002,u248003] 27 (0,0)) (by (with_reducible repeat (first|apply zb1|apply zb2|apply zb3));exact BK247.out) NB247_240.out (by simp));replace HB:=Aside0.mk (hb);replace HI240:=Aside0.mk (hi);(try clear hb);(try clear hk);(try clear hi);have hnb29:=NB247_237.out;have hnc29:=NB237_247.out;have hnb30:=NB247_240.out;have hnc30:=NB240_247.out;have hcz31_0 : w28.cell? ⟨gb247,0,none⟩ = some (.bool (t241 == 1)):=(blk_cell BK247.out 0).trans rfl;have hcz31_1 : w28.cell? ⟨gb247,1,none⟩ = some (u248001):=(blk_cell BK247.out 1).trans rfl;have hcz31_2 : w28.cell? ⟨gb247,2,none⟩ = some (u248002):=(blk_cell BK247.out 2).trans rfl;have hcz31_3 : w28.cell? ⟨gb247,3,none⟩ = some (u248003):=(blk_cell BK247.out 3).trans rfl;have hfz31_0:=blk_frozen BK247.out 0;have hfz31_1:=blk_frozen BK247.out 1;have hfz31_2:=blk_frozen BK247.out 2;have hfz31_3:=blk_frozen BK247.out 3))
         replace HO_248001:=Aside0.mk (Kd.R_drew HO_248001.out)
         replace HO_248002:=Aside0.mk (Kd.R_drew HO_248002.out)
         replace HO_248003:=Aside0.mk (Kd.R_drew HO_248003.out)
         replace BK237:=Aside0.mk (blk_drew BK237.out)
         replace BK247:=Aside0.mk (blk_drew BK247.out)
         replace HI240:=Aside0.mk (IsS62.drew HI240.out)
         replace HB:=Aside0.mk (below_drew1 HB.out)
         refine start_ (n:=10) (S:=fun w' => w'.cell? ⟨gb247,0,none⟩ = some (.bool (t241 == 1))∧w'.cell? ⟨gb247,1,none⟩ = some (u248001)∧w'.cell? ⟨gb247,2,none⟩ = some (u248002)∧w'.cell? ⟨gb247,3,none⟩ = some (u248003)) (ds:=[9]) #[false,false,false,false,false,false,false,false,false,false] (by kernel_rfl) rfl rfl ⟨(blk_cell BK247.out 0).trans rfl,(blk_cell BK247.out 1).trans rfl,(blk_cell BK247.out 2).trans rfl,(blk_cell BK247.out 3).trans rfl⟩ (fun hHeld => ?_);refine with_tabW node_Read.tab10 node_Read.bits10 (fun HT_ HW_ => ?_)
         generalize w28.drew = w32 at HO_248001 HO_248002 HO_248003 BK237 BK247 HI240 HB hHeld ⊢
         refine pure_ (i:=0) (N:=some 36) (v:=?_) (a':=?_) #[true,false,false,false,false,false,false,false,false,false] rfl rfl (any_of HT_.out (by kernel_rfl)) (fun _ _ _ h => h) (Or.inl ⟨by rfl,?_⟩) ?_ ?_
         rotate_left
         ·intro w'
          go_simp
          with_reducible rfl
         rotate_left
         ·simp only [Act.put,List.setIfInBounds_toArray,List.set_cons_zero,List.set_cons_succ,i64_w,i32_w]
          rfl
         refine pure_ (i:=2) (N:=some 38) (v:=?_) (a':=?_) #[true,false,true,false,false,false,false,false,false,false] rfl rfl (any_of HT_.out (by kernel_rfl)) (fun _ _ _ h => h) (Or.inl ⟨by rfl,?_⟩) ?_ ?_
         rotate_left
         ·intro w'
          go_simp
          with_reducible rfl
         rotate_left
         ·simp only [Act.put,List.setIfInBounds_toArray,List.set_cons_zero,List.set_cons_succ,i64_w,i32_w]
          rfl
         refine pure_ (i:=3) (N:=some 39) (v:=?_) (a':=?_) #[true,false,true,true,false,false,false,false,false,false] rfl rfl (any_of HT_.out (by kernel_rfl)) (fun _ _ _ h => h) (Or.inl ⟨by rfl,?_⟩) ?_ ?_
         rotate_left
         ·intro w'
          go_simp
          with_reducible rfl
         rotate_left
         ·simp only [Act.put,List.setIfInBounds_toArray,List.set_cons_zero,List.set_cons_succ,i64_w,i32_w]
          rfl
         refine take_ (i:=1) (N:=some 37) (v:=?_) (a':=?_) #[true,true,true,true,false,false,false,false,false,false] rfl rfl (take_ofW HT_.out HW_.out (by kernel_rfl)) (fun _ _ _ h => h) (Or.inl ⟨by rfl,?_⟩) hHeld ?_ ?_
         rotate_left
         ·rintro w' ⟨s0,s1,s2,s3⟩
          go_simp
          with_reducible rfl
         rotate_left
         ·simp only [Act.put,List.setIfInBounds_toArray,List.set_cons_zero,List.set_cons_succ,i64_w,i32_w]
          rfl
         refine one_ (i:=4) (N:=some 40) #[true,true,true,true,true,false,false,false,false,false] rfl rfl (one_of HT_.out (by kernel_rfl)) (by decide) (fun K hK => ?_)
         refine goes_ Tryd.func14 (by kernel_rfl) rfl #[.pointer (some ⟨g240,0,none⟩),.int .i64 40] (by rfl) rfl rfl (by (try simp only [List.map_toArray,List.map_cons,List.map_nil]);first|done|rfl|(simp only [List.length_drop,List.length_take];rfl)|(simp (disch:=omega) only [u64_in];rfl)) ?_
         with_reducible refine (pack_Reader_Str.calls g240 t255 t256 40 t257 t258 t259 w _ ?side1 ?side2 A26.out).mono ?_
         (case side1 => repeat (first|(with_reducible first|exact HI240.out|apply IsS62.alloc|apply IsS62.drewN|apply IsS62.drew|apply IsS62.set_0|apply IsS62.set_1|refine IsS62.far ?_ NB240_237.out _|refine IsS62.far ?_ NB240_247.out _)|exact HI240.out))
         (case side2 => repeat (first|(with_reducible first|exact HB.out|apply zl1|apply zl2|apply zl3|refine below_set ?_ (IsS62.ge HI240.out)|refine below_set ?_ GE237.out|refine below_set ?_ GE247.out)|exact HB.out))
         rintro e w33 ⟨rfl,hi,hb,hk⟩
         refine ⟨_,rfl,?_⟩
         replace HO_248001:=Aside0.mk (Kd.R_mono (Kd.R_keep (IsS62.apart (show IsS62 w _ g240 t255 t256 from by repeat (first|(with_reducible first|exact HI240.out|apply IsS62.alloc|apply IsS62.drewN|apply IsS62.drew|apply IsS62.set_0|apply IsS62.set_1|refine IsS62.far ?_ NB240_237.out _|refine IsS62.far ?_ NB240_247.out _)|exact HI240.out)) (by (with_reducible repeat (first|apply zk1|apply zk2|apply zk3));exact HO_248001.out) (by decide)) hk (fun _ h => h.2)) (fun _ h => h.1))
         replace HO_248002:=Aside0.mk (Kd.R_mono (Kd.R_keep (IsS62.apart (show IsS62 w _ g240 t255 t256 from by repeat (first|(with_reducible first|exact HI240.out|apply IsS62.alloc|apply IsS62.drewN|apply IsS62.drew|apply IsS62.set_0|apply IsS62.set_1|refine IsS62.far ?_ NB240_237.out _|refine IsS62.far ?_ NB240_247.out _)|exact HI240.out)) (by (with_reducible repeat (first|apply zk1|apply zk2|apply zk3));exact HO_248002.out) (by decide)) hk (fun _ h => h.2)) (fun _ h => h.1))
         replace HO_248003:=Aside0.mk (Kd.R_mono (Kd.R_keep (IsS62.apart (show IsS62 w _ g240 t255 t256 from by repeat (first|(with_reducible first|exact HI240.out|apply IsS62.alloc|apply IsS62.drewN|apply IsS62.drew|apply IsS62.set_0|apply IsS62.set_1|refine IsS62.far ?_ NB240_237.out _|refine IsS62.far ?_ NB240_247.out _)|exact HI240.out)) (by (with_reducible repeat (first|apply zk1|apply zk2|apply zk3));exact HO_248003.out) (by decide)) hk (fun _ h => h.2)) (fun _ h => h.1))
         replace BK237:=Aside0.mk (KeepBut.blk hk (g':=gb237) (o:=.cells #[.bool false,.slice none 0 0,.slice none 0 0,.slice none 0 0] 27 (0,0)) (by (with_reducible repeat (first|apply zb1|apply zb2|apply zb3));exact BK237.out) NB237_240.out (by simp))
         replace BK247:=Aside0.mk (KeepBut.blk hk (g':=gb247) (o:=.cells #[.bool (t241 == 1),u248001,u248002,u248003] 27 (0,0)) (by (with_reducible repeat (first|apply zb1|apply zb2|apply zb3));exact BK247.out) NB247_240.out (by simp))
         replace HB:=Aside0.mk (hb)
         replace HI240:=Aside0.mk (hi)
         (try clear hb)
         (try clear hb2)
         (try clear hk)
         (try clear hi)
         refine hK.out _ _ ⟨(blk_cell BK247.out 0).trans rfl,(blk_cell BK247.out 1).trans rfl,(blk_cell BK247.out 2).trans rfl,(blk_cell BK247.out 3).trans rfl⟩ (fun hHeld => ?_)
         clear hK K
         refine norm_ (a':=?_) ?_ ?_
         rotate_left
         ·show Act.put _ (some 40) _ = _
          simp only [Act.put,List.setIfInBounds_toArray,List.set_cons_zero,List.set_cons_succ,i64_w,i32_w]
          rfl
         refine pure_ (i:=5) (N:=some 41) (v:=?_) (a':=?_) #[true,true,true,true,true,true,false,false,false,false] rfl rfl (any_of HT_.out (by kernel_rfl)) (fun _ _ _ h => h) (Or.inl ⟨by rfl,?_⟩) ?_ ?_
         rotate_left
         ·intro w'
          go_simp
          with_reducible rfl
         rotate_left
         ·simp only [Act.put,List.setIfInBounds_toArray,List.set_cons_zero,List.set_cons_succ,i64_w,i32_w]
          rfl
         refine one_ (i:=6) (N:=some 42) #[true,true,true,true,true,true,true,false,false,false] rfl rfl (one_of HT_.out (by kernel_rfl)) (by decide) (fun K hK => ?_)
         refine value_ (w1:=?_) (v:=?_) (by rfl) rfl ?_ ?_
         rotate_left 2
         ·go_simp
          constructor
          ·rfl
          ·rfl
         refine hK.out _ _ ⟨(blk_cell (blk_alloc BK247.out _) 0).trans rfl,(blk_cell (blk_alloc BK247.out _) 1).trans rfl,(blk_cell (blk_alloc BK247.out _) 2).trans rfl,(blk_cell (blk_alloc BK247.out _) 3).trans rfl⟩ (fun hHeld => ?_)
         clear hK K
         refine norm_ (a':=?_) ?_ ?_
         rotate_left
         ·show Act.put _ (some 42) _ = _
          simp only [Act.put,List.setIfInBounds_toArray,List.set_cons_zero,List.set_cons_succ,i64_w,i32_w]
          rfl
         refine one_ (i:=7) (N:=some 43) #[true,true,true,true,true,true,true,true,false,false] rfl rfl (one_of HT_.out (by kernel_rfl)) (by decide) (fun K hK => ?_)
         refine Kd.R_append_step k44 (w0:=w) w.heap.size (by rfl) (.tmp 37) (.tmp 42) 23 44 (.agg #[(.string ⟨#[]⟩),(.string ⟨#[]⟩)]) 32 rfl Tryd.underlying23 info44 rfl (by decide) (by omega) u248001 x248001_2 (⟨t254,t257⟩ : S44) [.string t254,.string t257] (fun _ => True) (fun _ => False) rfl rfl ?aP (fun _ hk => hk.elim) ?aF ?aO ?aB ?aS ?aL ?_
         (case aP => exact k44_mkM _ _ _ (⟨t254,t257⟩ : S44))
         (case aB => exact (by repeat (first|(with_reducible first|exact HB.out|apply zl1|apply zl2|apply zl3|refine below_set ?_ (IsS62.ge HI240.out)|refine below_set ?_ GE237.out|refine below_set ?_ GE247.out)|exact HB.out)))
         (case aF => exact (fun _ _ => trivial))
         (case aO => exact (by (with_reducible repeat (first|apply zk1|apply zk2|apply zk3));exact HO_248001.out))
         (case aS => exact (below_size (by repeat (first|(with_reducible first|exact HB.out|apply zl1|apply zl2|apply zl3|refine below_set ?_ (IsS62.ge HI240.out)|refine below_set ?_ GE237.out|refine below_set ?_ GE247.out)|exact HB.out))))
         (case aL => have:=LMc27.out;omega)
         intro v261 w34 ho hb hg hat
         rw [← Ny260.out] at ho
         have n0_:=Aside0.mk (Kd.R_over' (by (with_reducible repeat (first|apply zk1|apply zk2|apply zk3));exact HO_248002.out) (Kd.R_typed (by (with_reducible repeat (first|apply zk1|apply zk2|apply zk3));exact HO_248001.out)) (by decide) hg)
         have n1_:=Aside0.mk (Kd.R_over' (by (with_reducible repeat (first|apply zk1|apply zk2|apply zk3));exact HO_248003.out) (Kd.R_typed (by (with_reducible repeat (first|apply zk1|apply zk2|apply zk3));exact HO_248001.out)) (by decide) hg)
         have n2_:=Aside0.mk (blk_grown (g:=gb237) (o:=.cells #[.bool false,.slice none 0 0,.slice none 0 0,.slice none 0 0] 27 (0,0)) (by (with_reducible repeat (first|apply zb1|apply zb2|apply zb3));exact BK237.out) hg (Kd.R_ne HO_248001.out BK237.out (by decide)))
         have n3_:=Aside0.mk (blk_grown (g:=gb247) (o:=.cells #[.bool (t241 == 1),u248001,u248002,u248003] 27 (0,0)) (by (with_reducible repeat (first|apply zb1|apply zb2|apply zb3));exact BK247.out) hg (Kd.R_ne HO_248001.out BK247.out (by decide)))
         have n4_:=Aside0.mk (IsS62.grown (show IsS62 w _ g240 t258 t259 from by repeat (first|(with_reducible first|exact HI240.out|apply IsS62.alloc|apply IsS62.drewN|apply IsS62.drew|apply IsS62.set_0|apply IsS62.set_1|refine IsS62.far ?_ NB240_237.out _|refine IsS62.far ?_ NB240_247.out _)|exact HI240.out)) hg (IsS62.own_ne HI240.out HO_248001.out (by decide)))
         have n5_:=Aside0.mk (hb)
         have n6_:=Aside0.mk (ho)
         clear HO_248002
         clear HO_248003
         clear BK237
         clear BK247
         clear HI240
         clear HB
         clear HO_248001
         have HO_248002:=n0_
         have HO_248003:=n1_
         have BK237:=n2_
         have BK247:=n3_
         have HI240:=n4_
         have HB:=n5_
         have HO262:=n6_
         clear n0_ n1_ n2_ n3_ n4_ n5_ n6_
         clear ho hb hg hat
         obtain ⟨Ao35,co35,eo35⟩:=Kd.R_slice HO262.out
         (first|subst eo35|(injection eo35 with f1_ f2_ f3_;have f4_:=f1_.symm;have f5_:=f3_.symm;clear f1_ f2_ f3_;subst f4_;subst f5_))
         refine hK.out _ _ ⟨(blk_cell BK247.out 0).trans rfl,(blk_cell BK247.out 1).trans rfl,(blk_cell BK247.out 2).trans rfl,(blk_cell BK247.out 3).trans rfl⟩ (fun hHeld => ?_)
         clear hK K
         refine norm_ (a':=?_) ?_ ?_
         rotate_left
         ·show Act.put _ (some 43) _ = _
          simp only [Act.put,List.setIfInBounds_toArray,List.set_cons_zero,List.set_cons_succ,i64_w,i32_w]
          rfl
         refine pure_ (i:=8) (N:=some 44) (v:=?_) (a':=?_) #[true,true,true,true,true,true,true,true,true,false] rfl rfl (any_of HT_.out (by kernel_rfl)) (fun _ _ _ h => h) (Or.inl ⟨by rfl,?_⟩) ?_ ?_
         rotate_left
         ·intro w'
          go_simp
          with_reducible rfl
         rotate_left
         ·simp only [Act.put,List.setIfInBounds_toArray,List.set_cons_zero,List.set_cons_succ,i64_w,i32_w]
          rfl
         refine last_ (i:=9) (N:=none) #[true,true,true,true,true,true,true,true,true,true] rfl rfl (one_of HT_.out (by kernel_rfl)) (by decide) (fun K hK => ?_)
         have hs36 : w34.cell? ⟨gb247,1,none⟩ = some (u248001):=(blk_cell BK247.out 1).trans rfl
         have hfs36:=blk_frozen BK247.out 1
         have hns36_0:=NB237_247.out
         have hms36_0:=NB247_237.out
         refine skip_ (w1:=?_) (by rfl) rfl ?_ ?_
         rotate_left
         ·go_simp
          rfl
         refine hK.out _ _ ?_
         clear hK K
         refine done_ (done_of HT_.out (by kernel_rfl)) ?_
         try go_wp2
         go_roundg k2
         case measure => have:=HJ4.out;have:=HK2.out;omega
         case rel => exact ⟨(IntKind.u64.wrap (x30_2 + 1)),(t258),(t259),(y260),(x248002_2),(x248003_2),(.slice Ao35 y260.length co35),(u248002),(u248003),(by first|(with_reducible rfl)|(simp;done)|(simp [*];done)|rfl|(simp only [not_isEmpty_bne])),H',⟨by have:=HJ4.out;have:=HK2.out;omega⟩,⟨by (with_reducible repeat (first|apply zk1|apply zk2|apply zk3));exact Kd.R_mono (Kd.R_far (p:=⟨gb247,1,none⟩) (Kd.R_types HO262.out BK247.out (by decide)) (fun _ hk => hk.2) (.slice Ao35 y260.length co35)) (fun _ hk => trivial)⟩,⟨by (with_reducible repeat (first|apply zk1|apply zk2|apply zk3));exact Kd.R_mono (Kd.R_far (p:=⟨gb247,1,none⟩) (Kd.R_types HO_248002.out BK247.out (by decide)) (fun _ hk => hk.2) (.slice Ao35 y260.length co35)) (fun _ hk => trivial)⟩,⟨by (with_reducible repeat (first|apply zk1|apply zk2|apply zk3));exact Kd.R_mono (Kd.R_far (p:=⟨gb247,1,none⟩) (Kd.R_types HO_248003.out BK247.out (by decide)) (fun _ hk => hk.2) (.slice Ao35 y260.length co35)) (fun _ hk => trivial)⟩,⟨by (with_reducible repeat (first|apply zb1|apply zb2|apply zb3));refine blk_far ?_ NB237_247.out _;(with_reducible repeat (first|apply zb1|apply zb2|apply zb3));exact BK237.out⟩,⟨by (with_reducible repeat (first|apply zb1|apply zb2|apply zb3));refine blk_put (cs:=#[.bool (t241 == 1),u248001,u248002,u248003]) ?_ 1 _ rfl;(with_reducible repeat (first|apply zb1|apply zb2|apply zb3));exact BK247.out⟩,⟨by repeat (first|(with_reducible first|exact HI240.out|apply IsS62.alloc|apply IsS62.drewN|apply IsS62.drew|apply IsS62.set_0|apply IsS62.set_1|refine IsS62.far ?_ NB240_237.out _|refine IsS62.far ?_ NB240_247.out _)|exact HI240.out)⟩,⟨by repeat (first|(with_reducible first|exact HB.out|apply zl1|apply zl2|apply zl3|refine below_set ?_ (IsS62.ge HI240.out)|refine below_set ?_ GE237.out|refine below_set ?_ GE247.out)|exact HB.out)⟩⟩
       ·rw [if_neg c27] at H
        exact absurd H (by simp)
      ·rw [if_neg c25] at H
       have c25b0 : (t241 == 1) = false:=by simpa using c25
       (try (have c25b1 : decide (t241 = 1) = false:=by simpa using c25))
       (try (have c25b2 : (t241 == 1) = false:=by simpa using c25))
       (try (have c25b3 : ¬ (t241 = 1):=by simpa using c25))
       clear c25
       by_cases c37 : x248002_2.length < 8796093022208
       ·rw [if_pos c37] at H
        have LMc37:=Aside0.mk c37
        clear c37
        obtain ⟨y263,hy263⟩ : ∃ y_ : List ByteArray,y_ = (x248002_2 ++ [t254]):=⟨_,rfl⟩
        replace H : ((pack_Reader_Num.f t255 t256 2).bind fun bt266 => (if x248003_2.length < 17592186044416 then (node_Read.l0 k2 a0 t241 t244 (IntKind.u64.wrap (x30_2 + 1)) bt266.2.1 bt266.2.2 (t241 == 1) x248001_2 y263 (x248003_2 ++ [wrap64 (bt266.1)])) else (none))) = some (r1,r2,r3,r4,r5):=by first|(rw [hy263];with_reducible exact H)|(have H2_:=(Option.bind_some _ _).symm.trans H;rw [hy263];with_reducible exact H2_)|(have H2_:=(Option.bind_some _ _).symm.trans H;with_reducible exact H2_)|with_reducible exact H|(rw [hy263];exact H)|exact H
        have Ny263:=Aside0.mk hy263
        clear hy263
        replace H:=Option.bind_eq_some_iff.mp H
        obtain ⟨⟨t266,t267,t268⟩,A380,H⟩:=H
        replace H : (if x248003_2.length < 17592186044416 then (node_Read.l0 k2 a0 t241 t244 (IntKind.u64.wrap (x30_2 + 1)) t267 t268 (t241 == 1) x248001_2 y263 (x248003_2 ++ [wrap64 (t266)])) else (none)) = some (r1,r2,r3,r4,r5):=H
        have A38:=Aside0.mk A380
        clear A380
        by_cases c39 : x248003_2.length < 17592186044416
        ·rw [if_pos c39] at H
         have LMc39:=Aside0.mk c39
         clear c39
         obtain ⟨y269,hy269⟩ : ∃ y_ : List Int,y_ = (x248003_2 ++ [wrap64 (t266)]):=⟨_,rfl⟩
         replace H : (node_Read.l0 k2 a0 t241 t244 (IntKind.u64.wrap (x30_2 + 1)) t267 t268 (t241 == 1) x248001_2 y263 y269) = some (r1,r2,r3,r4,r5):=by first|(rw [hy269];with_reducible exact H)|(have H2_:=(Option.bind_some _ _).symm.trans H;rw [hy269];with_reducible exact H2_)|(have H2_:=(Option.bind_some _ _).symm.trans H;with_reducible exact H2_)|with_reducible exact H|(rw [hy269];exact H)|exact H
         have Ny269:=Aside0.mk hy269
         clear hy269
         as_aux_lemma =>
          have H':=Aside0.mk H
          clear H
          try go_wp2_with (first|((with_reducible refine gate_callee (f:=14) rfl ?_);refine goesL_ (some 33) rfl rfl Tryd.func14 (by kernel_rfl) rfl #[.pointer (some ⟨g240,0,none⟩),.int .i64 32] rfl (by (try simp only [List.map_toArray,List.map_cons,List.map_nil]);first|done|rfl|(simp only [List.length_drop,List.length_take];rfl)|(simp (disch:=omega) only [u64_in];rfl)) ?_;(with_reducible refine (pack_Reader_Str.calls g240 x241000_2 x241001_2 32 t254 t255 t256 w _ ?side1 ?side2 A24.out).mono ?_);(case side1 => repeat (first|(with_reducible first|exact HI240.out|apply IsS62.alloc|apply IsS62.drewN|apply IsS62.drew|apply IsS62.set_0|apply IsS62.set_1|refine IsS62.far ?_ NB240_237.out _|refine IsS62.far ?_ NB240_247.out _)|exact HI240.out));(case side2 => repeat (first|(with_reducible first|exact HB.out|apply zl1|apply zl2|apply zl3|refine below_set ?_ (IsS62.ge HI240.out)|refine below_set ?_ GE237.out|refine below_set ?_ GE247.out)|exact HB.out));rintro e w40 ⟨rfl,hi,hb,hk⟩;refine ⟨_,rfl,?_⟩;replace HO_248001:=Aside0.mk (Kd.R_mono (Kd.R_keep (IsS62.apart (show IsS62 w _ g240 x241000_2 x241001_2 from by repeat (first|(with_reducible first|exact HI240.out|apply IsS62.alloc|apply IsS62.drewN|apply IsS62.drew|apply IsS62.set_0|apply IsS62.set_1|refine IsS62.far ?_ NB240_237.out _|refine IsS62.far ?_ NB240_247.out _)|exact HI240.out)) (by (with_reducible repeat (first|apply zk1|apply zk2|apply zk3));exact HO_248001.out) (by decide)) hk (fun _ h => h.2)) (fun _ h => h.1));replace HO_248002:=Aside0.mk (Kd.R_mono (Kd.R_keep (IsS62.apart (show IsS62 w _ g240 x241000_2 x241001_2 from by repeat (first|(with_reducible first|exact HI240.out|apply IsS62.alloc|apply IsS62.drewN|apply IsS62.drew|apply IsS62.set_0|apply IsS62.set_1|refine IsS62.far ?_ NB240_237.out _|refine IsS62.far ?_ NB240_247.out _)|exact HI240.out)) (by (with_reducible repeat (first|apply zk1|apply zk2|apply zk3));exact HO_248002.out) (by decide)) hk (fun _ h => h.2)) (fun _ h => h.1));replace HO_248003:=Aside0.mk (Kd.R_mono (Kd.R_keep (IsS62.apart (show IsS62 w _ g240 x241000_2 x241001_2 from by repeat (first|(with_reducible first|exact HI240.out|apply IsS62.alloc|apply IsS62.drewN|apply IsS62.drew|apply IsS62.set_0|apply IsS62.set_1|refine IsS62.far ?_ NB240_237.out _|refine IsS62.far ?_ NB240_247.out _)|exact HI240.out)) (by (with_reducible repeat (first|apply zk1|apply zk2|apply zk3));exact HO_248003.out) (by decide)) hk (fun _ h => h.2)) (fun _ h => h.1));replace BK237:=Aside0.mk (KeepBut.blk hk (g':=gb237) (o:=.cells #[.bool false,.slice none 0 0,.slice none 0 0,.slice none 0 0] 27 (0,0)) (by (with_reducible repeat (first|apply zb1|apply zb2|apply zb3));exact BK237.out) NB237_240.out (by simp));replace BK247:=Aside0.mk (KeepBut.blk hk (g':=gb247) (o:=.cells #[.bool (t241 == 1),u248001,u248002,u248003] 27 (0,0)) (by (with_reducible repeat (first|apply zb1|apply zb2|apply zb3));exact BK247.out) NB247_240.out (by simp));replace HB:=Aside0.mk (hb);replace HI240:=Aside0.mk (hi);(try clear hb);(try clear hk);(try clear hi);have hnb41:=NB247_237.out;have hnc41:=NB237_247.out;have hnb42:=NB247_240.out;have hnc42:=NB240_247.out;have hcz43_0 : w40.cell? ⟨gb247,0,none⟩ = some (.bool (t241 == 1)):=(blk_cell BK247.out 0).trans rfl;have hcz43_1 : w40.cell? ⟨gb247,1,none⟩ = some (u248001):=(blk_cell BK247.out 1).trans rfl;have hcz43_2 : w40.cell? ⟨gb247,2,none⟩ = some (u248002):=(blk_cell BK247.out 2).trans rfl;have hcz43_3 : w40.cell? ⟨gb247,3,none⟩ = some (u248003):=(blk_cell BK247.out 3).trans rfl;have hfz43_0:=blk_frozen BK247.out 0;have hfz43_1:=blk_frozen BK247.out 1;have hfz43_2:=blk_frozen BK247.out 2;have hfz43_3:=blk_frozen BK247.out 3)|((with_reducible refine gate_builtin (b:=.append) (xs:=#[.tmp 46,.tmp 48]) rfl ?_);(try (refine gate_guard (by rfl) ?_;dsimp only));at_builtin;refine Kd.R_append Kd.string (w0:=w) w.heap.size rfl (.tmp 46) (.tmp 48) 24 9 (.string ⟨#[]⟩) 16 rfl Tryd.underlying24 info9 rfl (by decide) (by omega) u248002 x248002_2 t254 [.string t254] (fun _ => True) (fun _ => False) rfl rfl ?aP (fun _ hk => hk.elim) ?aF ?aO ?aB ?aS ?aL ?_;(case aP => exact rfl);(case aB => exact (by repeat (first|(with_reducible first|exact HB.out|apply zl1|apply zl2|apply zl3|refine below_set ?_ (IsS62.ge HI240.out)|refine below_set ?_ GE237.out|refine below_set ?_ GE247.out)|exact HB.out)));(case aF => exact (fun _ _ => trivial));(case aO => exact (by (with_reducible repeat (first|apply zk1|apply zk2|apply zk3));exact HO_248002.out));(case aS => exact (below_size (by repeat (first|(with_reducible first|exact HB.out|apply zl1|apply zl2|apply zl3|refine below_set ?_ (IsS62.ge HI240.out)|refine below_set ?_ GE237.out|refine below_set ?_ GE247.out)|exact HB.out))));(case aL => have:=LMc37.out;omega);intro v264 w44 ho hb hg hat;rw [← Ny263.out] at ho;have n0_:=Aside0.mk (Kd.R_over' (by (with_reducible repeat (first|apply zk1|apply zk2|apply zk3));exact HO_248001.out) (Kd.R_typed (by (with_reducible repeat (first|apply zk1|apply zk2|apply zk3));exact HO_248002.out)) (by decide) hg);have n1_:=Aside0.mk (Kd.R_over' (by (with_reducible repeat (first|apply zk1|apply zk2|apply zk3));exact HO_248003.out) (Kd.R_typed (by (with_reducible repeat (first|apply zk1|apply zk2|apply zk3));exact HO_248002.out)) (by decide) hg);have n2_:=Aside0.mk (blk_grown (g:=gb237) (o:=.cells #[.bool false,.slice none 0 0,.slice none 0 0,.slice none 0 0] 27 (0,0)) (by (with_reducible repeat (first|apply zb1|apply zb2|apply zb3));exact BK237.out) hg (Kd.R_ne HO_248002.out BK237.out (by decide)));have n3_:=Aside0.mk (blk_grown (g:=gb247) (o:=.cells #[.bool (t241 == 1),u248001,u248002,u248003] 27 (0,0)) (by (with_reducible repeat (first|apply zb1|apply zb2|apply zb3));exact BK247.out) hg (Kd.R_ne HO_248002.out BK247.out (by decide)));have n4_:=Aside0.mk (IsS62.grown (show IsS62 w _ g240 t255 t256 from by repeat (first|(with_reducible first|exact HI240.out|apply IsS62.alloc|apply IsS62.drewN|apply IsS62.drew|apply IsS62.set_0|apply IsS62.set_1|refine IsS62.far ?_ NB240_237.out _|refine IsS62.far ?_ NB240_247.out _)|exact HI240.out)) hg (IsS62.own_ne HI240.out HO_248002.out (by decide)));have n5_:=Aside0.mk (hb);have n6_:=Aside0.mk (ho);clear HO_248001;clear HO_248003;clear BK237;clear BK247;clear HI240;clear HB;clear HO_248002;have HO_248001:=n0_;have HO_248003:=n1_;have BK237:=n2_;have BK247:=n3_;have HI240:=n4_;have HB:=n5_;have HO265:=n6_;clear n0_ n1_ n2_ n3_ n4_ n5_ n6_;clear ho hb hg hat;obtain ⟨Ao45,co45,eo45⟩:=Kd.R_slice HO265.out;subst eo45;have hcz46_0 : w44.cell? ⟨gb247,0,none⟩ = some (.bool (t241 == 1)):=(blk_cell BK247.out 0).trans rfl;have hcz46_1 : w44.cell? ⟨gb247,1,none⟩ = some (u248001):=(blk_cell BK247.out 1).trans rfl;have hcz46_2 : w44.cell? ⟨gb247,2,none⟩ = some (u248002):=(blk_cell BK247.out 2).trans rfl;have hcz46_3 : w44.cell? ⟨gb247,3,none⟩ = some (u248003):=(blk_cell BK247.out 3).trans rfl;have hfz46_0:=blk_frozen BK247.out 0;have hfz46_1:=blk_frozen BK247.out 1;have hfz46_2:=blk_frozen BK247.out 2;have hfz46_3:=blk_frozen BK247.out 3))
          have n0_ : Aside0 (Kd.R k44 44 (w44.setCell ⟨gb247,2,none⟩ (.slice Ao45 y263.length co45)) w.heap.size (fun _ => True) u248001 x248001_2):=⟨by (with_reducible repeat (first|apply zk1|apply zk2|apply zk3));exact Kd.R_mono (Kd.R_far (p:=⟨gb247,2,none⟩) (Kd.R_types HO_248001.out BK247.out (by decide)) (fun _ hk => hk.2) (.slice Ao45 y263.length co45)) (fun _ hk => trivial)⟩
          have n1_ : Aside0 (Kd.R (Kd.int .i64) 3 (w44.setCell ⟨gb247,2,none⟩ (.slice Ao45 y263.length co45)) w.heap.size (fun _ => True) u248003 x248003_2):=⟨by (with_reducible repeat (first|apply zk1|apply zk2|apply zk3));exact Kd.R_mono (Kd.R_far (p:=⟨gb247,2,none⟩) (Kd.R_types HO_248003.out BK247.out (by decide)) (fun _ hk => hk.2) (.slice Ao45 y263.length co45)) (fun _ hk => trivial)⟩
          have n2_ : Aside0 (Kd.R Kd.string 9 (w44.setCell ⟨gb247,2,none⟩ (.slice Ao45 y263.length co45)) w.heap.size (fun _ => True) (.slice Ao45 y263.length co45) y263):=⟨by (with_reducible repeat (first|apply zk1|apply zk2|apply zk3));exact Kd.R_mono (Kd.R_far (p:=⟨gb247,2,none⟩) (Kd.R_types HO265.out BK247.out (by decide)) (fun _ hk => hk.2) (.slice Ao45 y263.length co45)) (fun _ hk => trivial)⟩
          have n3_ : Aside0 ((w44.setCell ⟨gb247,2,none⟩ (.slice Ao45 y263.length co45)).heap[gb237]? = some (.cells #[.bool false,.slice none 0 0,.slice none 0 0,.slice none 0 0] 27 (0,0))):=⟨by (with_reducible repeat (first|apply zb1|apply zb2|apply zb3));refine blk_far ?_ NB237_247.out _;(with_reducible repeat (first|apply zb1|apply zb2|apply zb3));exact BK237.out⟩
          have n4_ : Aside0 ((w44.setCell ⟨gb247,2,none⟩ (.slice Ao45 y263.length co45)).heap[gb247]? = some (.cells #[.bool (t241 == 1),u248001,.slice Ao45 y263.length co45,u248003] 27 (0,0))):=⟨by (with_reducible repeat (first|apply zb1|apply zb2|apply zb3));refine blk_put (cs:=#[.bool (t241 == 1),u248001,u248002,u248003]) ?_ 2 _ rfl;(with_reducible repeat (first|apply zb1|apply zb2|apply zb3));exact BK247.out⟩
          have n5_ : Aside0 (IsS62 w (w44.setCell ⟨gb247,2,none⟩ (.slice Ao45 y263.length co45)) g240 t255 t256):=⟨by repeat (first|(with_reducible first|exact HI240.out|apply IsS62.alloc|apply IsS62.drewN|apply IsS62.drew|apply IsS62.set_0|apply IsS62.set_1|refine IsS62.far ?_ NB240_237.out _|refine IsS62.far ?_ NB240_247.out _)|exact HI240.out)⟩
          have n6_ : Aside0 (Below w.heap.size w (w44.setCell ⟨gb247,2,none⟩ (.slice Ao45 y263.length co45))):=⟨by repeat (first|(with_reducible first|exact HB.out|apply zl1|apply zl2|apply zl3|refine below_set ?_ (IsS62.ge HI240.out)|refine below_set ?_ GE237.out|refine below_set ?_ GE247.out)|exact HB.out)⟩
          (try clear HO_248001)
          (try clear HO_248003)
          (try clear HO265)
          (try clear BK237)
          (try clear BK247)
          (try clear HI240)
          (try clear HB)
          generalize (w44.setCell ⟨gb247,2,none⟩ (.slice Ao45 y263.length co45)) = w47 at n0_ n1_ n2_ n3_ n4_ n5_ n6_ ⊢
          have HO_248001:=n0_
          have HO_248003:=n1_
          have HO265:=n2_
          have BK237:=n3_
          have BK247:=n4_
          have HI240:=n5_
          have HB:=n6_
          clear n0_ n1_ n2_ n3_ n4_ n5_ n6_
          replace HO_248001:=Aside0.mk (Kd.R_drew HO_248001.out)
          replace HO_248003:=Aside0.mk (Kd.R_drew HO_248003.out)
          replace HO265:=Aside0.mk (Kd.R_drew HO265.out)
          replace BK237:=Aside0.mk (blk_drew BK237.out)
          replace BK247:=Aside0.mk (blk_drew BK247.out)
          replace HI240:=Aside0.mk (IsS62.drew HI240.out)
          replace HB:=Aside0.mk (below_drew1 HB.out)
          refine start_ (n:=9) (S:=fun w' => w'.cell? ⟨gb247,0,none⟩ = some (.bool (t241 == 1))∧w'.cell? ⟨gb247,1,none⟩ = some (u248001)∧w'.cell? ⟨gb247,2,none⟩ = some (.slice Ao45 y263.length co45)∧w'.cell? ⟨gb247,3,none⟩ = some (u248003)) (ds:=[8]) #[false,false,false,false,false,false,false,false,false] (by kernel_rfl) rfl rfl ⟨(blk_cell BK247.out 0).trans rfl,(blk_cell BK247.out 1).trans rfl,(blk_cell BK247.out 2).trans rfl,(blk_cell BK247.out 3).trans rfl⟩ (fun hHeld => ?_);refine with_tabW node_Read.tab12 node_Read.bits12 (fun HT_ HW_ => ?_)
          generalize w47.drew = w48 at HO_248001 HO_248003 HO265 BK237 BK247 HI240 HB hHeld ⊢
          refine pure_ (i:=0) (N:=some 51) (v:=?_) (a':=?_) #[true,false,false,false,false,false,false,false,false] rfl rfl (any_of HT_.out (by kernel_rfl)) (fun _ _ _ h => h) (Or.inl ⟨by rfl,?_⟩) ?_ ?_
          rotate_left
          ·intro w'
           go_simp
           with_reducible rfl
          rotate_left
          ·simp only [Act.put,List.setIfInBounds_toArray,List.set_cons_zero,List.set_cons_succ,i64_w,i32_w]
           rfl
          refine pure_ (i:=2) (N:=some 53) (v:=?_) (a':=?_) #[true,false,true,false,false,false,false,false,false] rfl rfl (any_of HT_.out (by kernel_rfl)) (fun _ _ _ h => h) (Or.inl ⟨by rfl,?_⟩) ?_ ?_
          rotate_left
          ·intro w'
           go_simp
           with_reducible rfl
          rotate_left
          ·simp only [Act.put,List.setIfInBounds_toArray,List.set_cons_zero,List.set_cons_succ,i64_w,i32_w]
           rfl
          refine take_ (i:=1) (N:=some 52) (v:=?_) (a':=?_) #[true,true,true,false,false,false,false,false,false] rfl rfl (take_ofW HT_.out HW_.out (by kernel_rfl)) (fun _ _ _ h => h) (Or.inl ⟨by rfl,?_⟩) hHeld ?_ ?_
          rotate_left
          ·rintro w' ⟨s0,s1,s2,s3⟩
           go_simp
           with_reducible rfl
          rotate_left
          ·simp only [Act.put,List.setIfInBounds_toArray,List.set_cons_zero,List.set_cons_succ,i64_w,i32_w]
           rfl
          refine one_ (i:=3) (N:=some 54) #[true,true,true,true,false,false,false,false,false] rfl rfl (one_of HT_.out (by kernel_rfl)) (by decide) (fun K hK => ?_)
          refine goes_ Tryd.func13 (by kernel_rfl) rfl #[.pointer (some ⟨g240,0,none⟩),.int .i64 2] (by rfl) rfl rfl (by (try simp only [List.map_toArray,List.map_cons,List.map_nil]);first|done|rfl|(simp only [List.length_drop,List.length_take];rfl)|(simp (disch:=omega) only [u64_in];rfl)) ?_
          with_reducible refine (pack_Reader_Num.calls g240 t255 t256 2 t266 t267 t268 w _ ?side1 ?side2 A38.out).mono ?_
          (case side1 => repeat (first|(with_reducible first|exact HI240.out|apply IsS62.alloc|apply IsS62.drewN|apply IsS62.drew|apply IsS62.set_0|apply IsS62.set_1|refine IsS62.far ?_ NB240_237.out _|refine IsS62.far ?_ NB240_247.out _)|exact HI240.out))
          (case side2 => repeat (first|(with_reducible first|exact HB.out|apply zl1|apply zl2|apply zl3|refine below_set ?_ (IsS62.ge HI240.out)|refine below_set ?_ GE237.out|refine below_set ?_ GE247.out)|exact HB.out))
          rintro e w49 ⟨rfl,hi,hb,hk⟩
          refine ⟨_,rfl,?_⟩
          replace HO_248001:=Aside0.mk (Kd.R_mono (Kd.R_keep (IsS62.apart (show IsS62 w _ g240 t255 t256 from by repeat (first|(with_reducible first|exact HI240.out|apply IsS62.alloc|apply IsS62.drewN|apply IsS62.drew|apply IsS62.set_0|apply IsS62.set_1|refine IsS62.far ?_ NB240_237.out _|refine IsS62.far ?_ NB240_247.out _)|exact HI240.out)) (by (with_reducible repeat (first|apply zk1|apply zk2|apply zk3));exact HO_248001.out) (by decide)) hk (fun _ h => h.2)) (fun _ h => h.1))
          replace HO_248003:=Aside0.mk (Kd.R_mono (Kd.R_keep (IsS62.apart (show IsS62 w _ g240 t255 t256 from by repeat (first|(with_reducible first|exact HI240.out|apply IsS62.alloc|apply IsS62.drewN|apply IsS62.drew|apply IsS62.set_0|apply IsS62.set_1|refine IsS62.far ?_ NB240_237.out _|refine IsS62.far ?_ NB240_247.out _)|exact HI240.out)) (by (with_reducible repeat (first|apply zk1|apply zk2|apply zk3));exact HO_248003.out) (by decide)) hk (fun _ h => h.2)) (fun _ h => h.1))
          replace BK237:=Aside0.mk (KeepBut.blk hk (g':=gb237) (o:=.cells #[.bool false,.slice none 0 0,.slice none 0 0,.slice none 0 0] 27 (0,0)) (by (with_reducible repeat (first|apply zb1|apply zb2|apply zb3));exact BK237.out) NB237_240.out (by simp))
          replace BK247:=Aside0.mk (KeepBut.blk hk (g':=gb247) (o:=.cells #[.bool (t241 == 1),u248001,.slice Ao45 y263.length co45,u248003] 27 (0,0)) (by (with_reducible repeat (first|apply zb1|apply zb2|apply zb3));exact BK247.out) NB247_240.out (by simp))
          replace HO265:=Aside0.mk (Kd.R_mono (Kd.R_keep (IsS62.apart (show IsS62 w _ g240 t255 t256 from by repeat (first|(with_reducible first|exact HI240.out|apply IsS62.alloc|apply IsS62.drewN|apply IsS62.drew|apply IsS62.set_0|apply IsS62.set_1|refine IsS62.far ?_ NB240_237.out _|refine IsS62.far ?_ NB240_247.out _)|exact HI240.out)) (by (with_reducible repeat (first|apply zk1|apply zk2|apply zk3));exact HO265.out) (by decide)) hk (fun _ h => h.2)) (fun _ h => h.1))
          replace HB:=Aside0.mk (hb)
          replace HI240:=Aside0.mk (hi)
          (try clear hb)
          (try clear hb2)
          (try clear hk)
          (try clear hi)
          refine hK.out _ _ ⟨(blk_cell BK247.out 0).trans rfl,(blk_cell BK247.out 1).trans rfl,(blk_cell BK247.out 2).trans rfl,(blk_cell BK247.out 3).trans rfl⟩ (fun hHeld => ?_)
          clear hK K
          refine norm_ (a':=?_) ?_ ?_
          rotate_left
          ·show Act.put _ (some 54) _ = _
           simp only [Act.put,List.setIfInBounds_toArray,List.set_cons_zero,List.set_cons_succ,i64_w,i32_w]
           rfl
          refine pure_ (i:=4) (N:=some 55) (v:=?_) (a':=?_) #[true,true,true,true,true,false,false,false,false] rfl rfl (any_of HT_.out (by kernel_rfl)) (fun _ _ _ h => h) (Or.inl ⟨by rfl,?_⟩) ?_ ?_
          rotate_left
          ·intro w'
           go_simp
           with_reducible rfl
          rotate_left
          ·simp only [Act.put,List.setIfInBounds_toArray,List.set_cons_zero,List.set_cons_succ,i64_w,i32_w]
           rfl
          refine one_ (i:=5) (N:=some 56) #[true,true,true,true,true,true,false,false,false] rfl rfl (one_of HT_.out (by kernel_rfl)) (by decide) (fun K hK => ?_)
          refine value_ (w1:=?_) (v:=?_) (by rfl) rfl ?_ ?_
          rotate_left 2
          ·go_simp
           constructor
           ·rfl
           ·rfl
          refine hK.out _ _ ⟨(blk_cell (blk_alloc BK247.out _) 0).trans rfl,(blk_cell (blk_alloc BK247.out _) 1).trans rfl,(blk_cell (blk_alloc BK247.out _) 2).trans rfl,(blk_cell (blk_alloc BK247.out _) 3).trans rfl⟩ (fun hHeld => ?_)
          clear hK K
          refine norm_ (a':=?_) ?_ ?_
          rotate_left
          ·show Act.put _ (some 56) _ = _
           simp only [Act.put,List.setIfInBounds_toArray,List.set_cons_zero,List.set_cons_succ,i64_w,i32_w]
           rfl
          refine one_ (i:=6) (N:=some 57) #[true,true,true,true,true,true,true,false,false] rfl rfl (one_of HT_.out (by kernel_rfl)) (by decide) (fun K hK => ?_)
          refine Kd.R_append_step (Kd.int .i64) (w0:=w) w.heap.size (by rfl) (.tmp 52) (.tmp 56) 25 3 (.int .i64 0) 8 rfl Tryd.underlying25 info3 rfl (by decide) (by omega) u248003 x248003_2 (wrap64 (t266)) [.int .i64 (wrap64 (t266))] (fun _ => True) (fun _ => False) rfl rfl ?aP (fun _ hk => hk.elim) ?aF ?aO ?aB ?aS ?aL ?_
          (case aP => exact rfl)
          (case aB => exact (by repeat (first|(with_reducible first|exact HB.out|apply zl1|apply zl2|apply zl3|refine below_set ?_ (IsS62.ge HI240.out)|refine below_set ?_ GE237.out|refine below_set ?_ GE247.out)|exact HB.out)))
          (case aF => exact (fun _ _ => trivial))
          (case aO => exact (by (with_reducible repeat (first|apply zk1|apply zk2|apply zk3));exact HO_248003.out))
          (case aS => exact (below_size (by repeat (first|(with_reducible first|exact HB.out|apply zl1|apply zl2|apply zl3|refine below_set ?_ (IsS62.ge HI240.out)|refine below_set ?_ GE237.out|refine below_set ?_ GE247.out)|exact HB.out))))
          (case aL => have:=LMc39.out;omega)
          intro v270 w50 ho hb hg hat
          rw [← Ny269.out] at ho
          have n0_:=Aside0.mk (Kd.R_over' (by (with_reducible repeat (first|apply zk1|apply zk2|apply zk3));exact HO_248001.out) (Kd.R_typed (by (with_reducible repeat (first|apply zk1|apply zk2|apply zk3));exact HO_248003.out)) (by decide) hg)
          have n1_:=Aside0.mk (blk_grown (g:=gb237) (o:=.cells #[.bool false,.slice none 0 0,.slice none 0 0,.slice none 0 0] 27 (0,0)) (by (with_reducible repeat (first|apply zb1|apply zb2|apply zb3));exact BK237.out) hg (Kd.R_ne HO_248003.out BK237.out (by decide)))
          have n2_:=Aside0.mk (blk_grown (g:=gb247) (o:=.cells #[.bool (t241 == 1),u248001,.slice Ao45 y263.length co45,u248003] 27 (0,0)) (by (with_reducible repeat (first|apply zb1|apply zb2|apply zb3));exact BK247.out) hg (Kd.R_ne HO_248003.out BK247.out (by decide)))
          have n3_:=Aside0.mk (IsS62.grown (show IsS62 w _ g240 t267 t268 from by repeat (first|(with_reducible first|exact HI240.out|apply IsS62.alloc|apply IsS62.drewN|apply IsS62.drew|apply IsS62.set_0|apply IsS62.set_1|refine IsS62.far ?_ NB240_237.out _|refine IsS62.far ?_ NB240_247.out _)|exact HI240.out)) hg (IsS62.own_ne HI240.out HO_248003.out (by decide)))
          have n4_:=Aside0.mk (Kd.R_over' (by (with_reducible repeat (first|apply zk1|apply zk2|apply zk3));exact HO265.out) (Kd.R_typed (by (with_reducible repeat (first|apply zk1|apply zk2|apply zk3));exact HO_248003.out)) (by decide) hg)
          have n5_:=Aside0.mk (hb)
          have n6_:=Aside0.mk (ho)
          clear HO_248001
          clear BK237
          clear BK247
          clear HI240
          clear HO265
          clear HB
          clear HO_248003
          have HO_248001:=n0_
          have BK237:=n1_
          have BK247:=n2_
          have HI240:=n3_
          have HO265:=n4_
          have HB:=n5_
          have HO271:=n6_
          clear n0_ n1_ n2_ n3_ n4_ n5_ n6_
          clear ho hb hg hat
          obtain ⟨Ao51,co51,eo51⟩:=Kd.R_slice HO271.out
          (first|subst eo51|(injection eo51 with f1_ f2_ f3_;have f4_:=f1_.symm;have f5_:=f3_.symm;clear f1_ f2_ f3_;subst f4_;subst f5_))
          refine hK.out _ _ ⟨(blk_cell BK247.out 0).trans rfl,(blk_cell BK247.out 1).trans rfl,(blk_cell BK247.out 2).trans rfl,(blk_cell BK247.out 3).trans rfl⟩ (fun hHeld => ?_)
          clear hK K
          refine norm_ (a':=?_) ?_ ?_
          rotate_left
          ·show Act.put _ (some 57) _ = _
           simp only [Act.put,List.setIfInBounds_toArray,List.set_cons_zero,List.set_cons_succ,i64_w,i32_w]
           rfl
          refine pure_ (i:=7) (N:=some 58) (v:=?_) (a':=?_) #[true,true,true,true,true,true,true,true,false] rfl rfl (any_of HT_.out (by kernel_rfl)) (fun _ _ _ h => h) (Or.inl ⟨by rfl,?_⟩) ?_ ?_
          rotate_left
          ·intro w'
           go_simp
           with_reducible rfl
          rotate_left
          ·simp only [Act.put,List.setIfInBounds_toArray,List.set_cons_zero,List.set_cons_succ,i64_w,i32_w]
           rfl
          refine last_ (i:=8) (N:=none) #[true,true,true,true,true,true,true,true,true] rfl rfl (one_of HT_.out (by kernel_rfl)) (by decide) (fun K hK => ?_)
          have hs52 : w50.cell? ⟨gb247,3,none⟩ = some (u248003):=(blk_cell BK247.out 3).trans rfl
          have hfs52:=blk_frozen BK247.out 3
          have hns52_0:=NB237_247.out
          have hms52_0:=NB247_237.out
          refine skip_ (w1:=?_) (by rfl) rfl ?_ ?_
          rotate_left
          ·go_simp
           rfl
          refine hK.out _ _ ?_
          clear hK K
          refine done_ (done_of HT_.out (by kernel_rfl)) ?_
          try go_wp2
          go_roundg k2
          case measure => have:=HJ4.out;have:=HK2.out;omega
          case rel => exact ⟨(IntKind.u64.wrap (x30_2 + 1)),(t267),(t268),(x248001_2),(y263),(y269),(u248001),(.slice Ao45 y263.length co45),(.slice Ao51 y269.length co51),(by first|(with_reducible rfl)|(simp;done)|(simp [*];done)|rfl|(simp only [not_isEmpty_bne])),H',⟨by have:=HJ4.out;have:=HK2.out;omega⟩,⟨by (with_reducible repeat (first|apply zk1|apply zk2|apply zk3));exact Kd.R_mono (Kd.R_far (p:=⟨gb247,3,none⟩) (Kd.R_types HO_248001.out BK247.out (by decide)) (fun _ hk => hk.2) (.slice Ao51 y269.length co51)) (fun _ hk => trivial)⟩,⟨by (with_reducible repeat (first|apply zk1|apply zk2|apply zk3));exact Kd.R_mono (Kd.R_far (p:=⟨gb247,3,none⟩) (Kd.R_types HO265.out BK247.out (by decide)) (fun _ hk => hk.2) (.slice Ao51 y269.length co51)) (fun _ hk => trivial)⟩,⟨by (with_reducible repeat (first|apply zk1|apply zk2|apply zk3));exact Kd.R_mono (Kd.R_far (p:=⟨gb247,3,none⟩) (Kd.R_types HO271.out BK247.out (by decide)) (fun _ hk => hk.2) (.slice Ao51 y269.length co51)) (fun _ hk => trivial)⟩,⟨by (with_reducible repeat (first|apply zb1|apply zb2|apply zb3));refine blk_far ?_ NB237_247.out _;(with_reducible repeat (first|apply zb1|apply zb2|apply zb3));exact BK237.out⟩,⟨by (with_reducible repeat (first|apply zb1|apply zb2|apply zb3));refine blk_put (cs:=#[.bool (t241 == 1),u248001,.slice Ao45 y263.length co45,u248003]) ?_ 3 _ rfl;(with_reducible repeat (first|apply zb1|apply zb2|apply zb3));exact BK247.out⟩,⟨by repeat (first|(with_reducible first|exact HI240.out|apply IsS62.alloc|apply IsS62.drewN|apply IsS62.drew|apply IsS62.set_0|apply IsS62.set_1|refine IsS62.far ?_ NB240_237.out _|refine IsS62.far ?_ NB240_247.out _)|exact HI240.out)⟩,⟨by repeat (first|(with_reducible first|exact HB.out|apply zl1|apply zl2|apply zl3|refine below_set ?_ (IsS62.ge HI240.out)|refine below_set ?_ GE237.out|refine below_set ?_ GE247.out)|exact HB.out)⟩⟩
        ·rw [if_neg c39] at H
         exact absurd H (by simp)
       ·rw [if_neg c37] at H
        exact absurd H (by simp)
     ·rw [if_neg c23] at H
      have c23b0 : decide (x30_2 < t244) = false:=decide_eq_false c23
      clear c23
      replace H:=Option.bind_eq_some_iff.mp H
      obtain ⟨⟨t272,t273,t274⟩,A530,H⟩:=H
      replace H : ((pack_Reader_Raw.f t273 t274 t272).bind fun bt275 => (if t241 = 1 then ((pack_Reader_Err.f bt275.2.1 bt275.2.2).bind fun bt278 => (if bt278.1 = 0 then (if (a0.size : Int) = 256 then ((node_right.f k2 (t241 == 1) x248001_2 x248002_2 x248003_2).bind fun t281 => (if t281 = true then ((strings_Trim.f bt275.1 (⟨#[0]⟩ : ByteArray)).bind fun t282 => (node_Read.j2 k2 (t282.toList != ([] : List UInt8)) (t241 == 1) x248001_2 x248002_2 x248003_2)) else (node_Read.j2 k2 true (t241 == 1) x248001_2 x248002_2 x248003_2))) else (node_Read.j2 k2 true (t241 == 1) x248001_2 x248002_2 x248003_2)) else (node_Read.j2 k2 true (t241 == 1) x248001_2 x248002_2 x248003_2))) else (if t241 = 2 then ((pack_Reader_Err.f bt275.2.1 bt275.2.2).bind fun bt283 => (if bt283.1 = 0 then (if (a0.size : Int) = 256 then ((node_right.f k2 (t241 == 1) x248001_2 x248002_2 x248003_2).bind fun t286 => (if t286 = true then ((strings_Trim.f bt275.1 (⟨#[0]⟩ : ByteArray)).bind fun t287 => (node_Read.j2 k2 (t287.toList != ([] : List UInt8)) (t241 == 1) x248001_2 x248002_2 x248003_2)) else (node_Read.j2 k2 true (t241 == 1) x248001_2 x248002_2 x248003_2))) else (node_Read.j2 k2 true (t241 == 1) x248001_2 x248002_2 x248003_2)) else (node_Read.j2 k2 true (t241 == 1) x248001_2 x248002_2 x248003_2))) else (node_Read.j2 k2 true (t241 == 1) x248001_2 x248002_2 x248003_2)))) = some (r1,r2,r3,r4,r5):=H
      have A53:=Aside0.mk A530
      clear A530
      replace H:=Option.bind_eq_some_iff.mp H
      obtain ⟨⟨t275,t276,t277⟩,A540,H⟩:=H
      replace H : (if t241 = 1 then ((pack_Reader_Err.f t276 t277).bind fun bt278 => (if bt278.1 = 0 then (if (a0.size : Int) = 256 then ((node_right.f k2 (t241 == 1) x248001_2 x248002_2 x248003_2).bind fun t281 => (if t281 = true then ((strings_Trim.f t275 (⟨#[0]⟩ : ByteArray)).bind fun t282 => (node_Read.j2 k2 (t282.toList != ([] : List UInt8)) (t241 == 1) x248001_2 x248002_2 x248003_2)) else (node_Read.j2 k2 true (t241 == 1) x248001_2 x248002_2 x248003_2))) else (node_Read.j2 k2 true (t241 == 1) x248001_2 x248002_2 x248003_2)) else (node_Read.j2 k2 true (t241 == 1) x248001_2 x248002_2 x248003_2))) else (if t241 = 2 then ((pack_Reader_Err.f t276 t277).bind fun bt283 => (if bt283.1 = 0 then (if (a0.size : Int) = 256 then ((node_right.f k2 (t241 == 1) x248001_2 x248002_2 x248003_2).bind fun t286 => (if t286 = true then ((strings_Trim.f t275 (⟨#[0]⟩ : ByteArray)).bind fun t287 => (node_Read.j2 k2 (t287.toList != ([] : List UInt8)) (t241 == 1) x248001_2 x248002_2 x248003_2)) else (node_Read.j2 k2 true (t241 == 1) x248001_2 x248002_2 x248003_2))) else (node_Read.j2 k2 true (t241 == 1) x248001_2 x248002_2 x248003_2)) else (node_Read.j2 k2 true (t241 == 1) x248001_2 x248002_2 x248003_2))) else (node_Read.j2 k2 true (t241 == 1) x248001_2 x248002_2 x248003_2))) = some (r1,r2,r3,r4,r5):=H
      have A54:=Aside0.mk A540
      clear A540
      have HC55:=Aside0.mk H
      clear H
      go_upto_region 15 with (first|((with_reducible refine gate_callee (f:=16) rfl ?_);refine goesL_ (some 62) rfl rfl Tryd.func16 (by kernel_rfl) rfl #[.pointer (some ⟨g240,0,none⟩)] rfl (by (try simp only [List.map_toArray,List.map_cons,List.map_nil]);first|done|rfl|(simp only [List.length_drop,List.length_take];rfl)|(simp (disch:=omega) only [u64_in];rfl)) ?_;(with_reducible refine (pack_Reader_Left.calls g240 x241000_2 x241001_2 t272 t273 t274 w _ ?side1 ?side2 A53.out).mono ?_);(case side1 => repeat (first|(with_reducible first|exact HI240.out|apply IsS62.alloc|apply IsS62.drewN|apply IsS62.drew|apply IsS62.set_0|apply IsS62.set_1|refine IsS62.far ?_ NB240_237.out _|refine IsS62.far ?_ NB240_247.out _)|exact HI240.out));(case side2 => repeat (first|(with_reducible first|exact HB.out|apply zl1|apply zl2|apply zl3|refine below_set ?_ (IsS62.ge HI240.out)|refine below_set ?_ GE237.out|refine below_set ?_ GE247.out)|exact HB.out));rintro e w56 ⟨rfl,hi,hb,hk⟩;refine ⟨_,rfl,?_⟩;replace HO_248001:=Aside0.mk (Kd.R_mono (Kd.R_keep (IsS62.apart (show IsS62 w _ g240 x241000_2 x241001_2 from by repeat (first|(with_reducible first|exact HI240.out|apply IsS62.alloc|apply IsS62.drewN|apply IsS62.drew|apply IsS62.set_0|apply IsS62.set_1|refine IsS62.far ?_ NB240_237.out _|refine IsS62.far ?_ NB240_247.out _)|exact HI240.out)) (by (with_reducible repeat (first|apply zk1|apply zk2|apply zk3));exact HO_248001.out) (by decide)) hk (fun _ h => h.2)) (fun _ h => h.1));replace HO_248002:=Aside0.mk (Kd.R_mono (Kd.R_keep (IsS62.apart (show IsS62 w _ g240 x241000_2 x241001_2 from by repeat (first|(with_reducible first|exact HI240.out|apply IsS62.alloc|apply IsS62.drewN|apply IsS62.drew|apply IsS62.set_0|apply IsS62.set_1|refine IsS62.far ?_ NB240_237.out _|refine IsS62.far ?_ NB240_247.out _)|exact HI240.out)) (by (with_reducible repeat (first|apply zk1|apply zk2|apply zk3));exact HO_248002.out) (by decide)) hk (fun _ h => h.2)) (fun _ h => h.1));replace HO_248003:=Aside0.mk (Kd.R_mono (Kd.R_keep (IsS62.apart (show IsS62 w _ g240 x241000_2 x241001_2 from by repeat (first|(with_reducible first|exact HI240.out|apply IsS62.alloc|apply IsS62.drewN|apply IsS62.drew|apply IsS62.set_0|apply IsS62.set_1|refine IsS62.far ?_ NB240_237.out _|refine IsS62.far ?_ NB240_247.out _)|exact HI240.out)) (by (with_reducible repeat (first|apply zk1|apply zk2|apply zk3));exact HO_248003.out) (by decide)) hk (fun _ h => h.2)) (fun _ h => h.1));replace BK237:=Aside0.mk (KeepBut.blk hk (g':=gb237) (o:=.cells #[.bool false,.slice none 0 0,.slice none 0 0,.slice none 0 0] 27 (0,0)) (by (with_reducible repeat (first|apply zb1|apply zb2|apply zb3));exact BK237.out) NB237_240.out (by simp));replace BK247:=Aside0.mk (KeepBut.blk hk (g':=gb247) (o:=.cells #[.bool (t241 == 1),u248001,u248002,u248003] 27 (0,0)) (by (with_reducible repeat (first|apply zb1|apply zb2|apply zb3));exact BK247.out) NB247_240.out (by simp));replace HB:=Aside0.mk (hb);replace HI240:=Aside0.mk (hi);(try clear hb);(try clear hk);(try clear hi))|((with_reducible refine gate_callee (f:=15) rfl ?_);refine goesL_ (some 63) rfl rfl Tryd.func15 (by kernel_rfl) rfl #[.pointer (some ⟨g240,0,none⟩),.int .i64 t272] rfl (by (try simp only [List.map_toArray,List.map_cons,List.map_nil]);first|done|rfl|(simp only [List.length_drop,List.length_take];rfl)|(simp (disch:=omega) only [u64_in];rfl)) ?_;(with_reducible refine (pack_Reader_Raw.calls g240 t273 t274 t272 t275 t276 t277 w _ ?side1 ?side2 A54.out).mono ?_);(case side1 => repeat (first|(with_reducible first|exact HI240.out|apply IsS62.alloc|apply IsS62.drewN|apply IsS62.drew|apply IsS62.set_0|apply IsS62.set_1|refine IsS62.far ?_ NB240_237.out _|refine IsS62.far ?_ NB240_247.out _)|exact HI240.out));(case side2 => repeat (first|(with_reducible first|exact HB.out|apply zl1|apply zl2|apply zl3|refine below_set ?_ (IsS62.ge HI240.out)|refine below_set ?_ GE237.out|refine below_set ?_ GE247.out)|exact HB.out));rintro e w57 ⟨rfl,hi,hb,hk⟩;refine ⟨_,rfl,?_⟩;replace HO_248001:=Aside0.mk (Kd.R_mono (Kd.R_keep (IsS62.apart (show IsS62 w _ g240 t273 t274 from by repeat (first|(with_reducible first|exact HI240.out|apply IsS62.alloc|apply IsS62.drewN|apply IsS62.drew|apply IsS62.set_0|apply IsS62.set_1|refine IsS62.far ?_ NB240_237.out _|refine IsS62.far ?_ NB240_247.out _)|exact HI240.out)) (by (with_reducible repeat (first|apply zk1|apply zk2|apply zk3));exact HO_248001.out) (by decide)) hk (fun _ h => h.2)) (fun _ h => h.1));replace HO_248002:=Aside0.mk (Kd.R_mono (Kd.R_keep (IsS62.apart (show IsS62 w _ g240 t273 t274 from by repeat (first|(with_reducible first|exact HI240.out|apply IsS62.alloc|apply IsS62.drewN|apply IsS62.drew|apply IsS62.set_0|apply IsS62.set_1|refine IsS62.far ?_ NB240_237.out _|refine IsS62.far ?_ NB240_247.out _)|exact HI240.out)) (by (with_reducible repeat (first|apply zk1|apply zk2|apply zk3));exact HO_248002.out) (by decide)) hk (fun _ h => h.2)) (fun _ h => h.1));replace HO_248003:=Aside0.mk (Kd.R_mono (Kd.R_keep (IsS62.apart (show IsS62 w _ g240 t273 t274 from by repeat (first|(with_reducible first|exact HI240.out|apply IsS62.alloc|apply IsS62.drewN|apply IsS62.drew|apply IsS62.set_0|apply IsS62.set_1|refine IsS62.far ?_ NB240_237.out _|refine IsS62.far ?_ NB240_247.out _)|exact HI240.out)) (by (with_reducible repeat (first|apply zk1|apply zk2|apply zk3));exact HO_248003.out) (by decide)) hk (fun _ h => h.2)) (fun _ h => h.1));replace BK237:=Aside0.mk (KeepBut.blk hk (g':=gb237) (o:=.cells #[.bool false,.slice none 0 0,.slice none 0 0,.slice none 0 0] 27 (0,0)) (by (with_reducible repeat (first|apply zb1|apply zb2|apply zb3));exact BK237.out) NB237_240.out (by simp));replace BK247:=Aside0.mk (KeepBut.blk hk (g':=gb247) (o:=.cells #[.bool (t241 == 1),u248001,u248002,u248003] 27 (0,0)) (by (with_reducible repeat (first|apply zb1|apply zb2|apply zb3));exact BK247.out) NB247_240.out (by simp));replace HB:=Aside0.mk (hb);replace HI240:=Aside0.mk (hi);(try clear hb);(try clear hk);(try clear hi)))
      (try simp only [Act.put,List.setIfInBounds_toArray,List.set_cons_zero,List.set_cons_succ])
      go_cut [89] (fun v89 wc => ∃ (kq : Nat) (x89_54 : Bool),v89 = .bool x89_54∧Aside0 (node_Read.j2 kq x89_54 (t241 == 1) x248001_2 x248002_2 x248003_2 = some (r1,r2,r3,r4,r5))∧Aside0 (kq ≤ k2)∧Aside0 (Kd.R k44 44 wc w.heap.size (fun _ => True) u248001 x248001_2)∧Aside0 (Kd.R Kd.string 9 wc w.heap.size (fun _ => True) u248002 x248002_2)∧Aside0 (Kd.R (Kd.int .i64) 3 wc w.heap.size (fun _ => True) u248003 x248003_2)∧Aside0 (wc.heap[gb237]? = some (.cells #[.bool false,(.slice none 0 0),(.slice none 0 0),(.slice none 0 0)] 27 (0,0)))∧Aside0 (wc.heap[gb247]? = some (.cells #[.bool (t241 == 1),u248001,u248002,u248003] 27 (0,0)))∧Aside0 (Below w.heap.size w wc))
      case first =>
       have H:=HC55.out
       clear HC55
       by_cases c58 : t241 = 1
       ·rw [if_pos c58] at H
        have c58b0 : (t241 == 1) = true:=beq_iff_eq.mpr c58
        have c58b1 : (t241 != 1) = false:=bne_eq_false_iff_eq.mpr c58
        clear c58
        (try rw [c58b0] at H);(try rw [c58b0] at BK247)
        (first|rw [c58b0]|(simp only [i64_w,i32_w];rw [c58b0])|skip)
        replace H:=Option.bind_eq_some_iff.mp H
        obtain ⟨⟨t278,t279,t280⟩,A590,H⟩:=H
        replace H : (if t278 = 0 then (if (a0.size : Int) = 256 then ((node_right.f k2 true x248001_2 x248002_2 x248003_2).bind fun t281 => (if t281 = true then ((strings_Trim.f t275 (⟨#[0]⟩ : ByteArray)).bind fun t282 => (node_Read.j2 k2 (t282.toList != ([] : List UInt8)) true x248001_2 x248002_2 x248003_2)) else (node_Read.j2 k2 true true x248001_2 x248002_2 x248003_2))) else (node_Read.j2 k2 true true x248001_2 x248002_2 x248003_2)) else (node_Read.j2 k2 true true x248001_2 x248002_2 x248003_2)) = some (r1,r2,r3,r4,r5):=H
        have A59:=Aside0.mk A590
        clear A590
        by_cases c60 : t278 = 0
        ·rw [if_pos c60] at H
         have c60b0 : (t278 == 0) = true:=beq_iff_eq.mpr c60
         have c60b1 : (t278 != 0) = false:=bne_eq_false_iff_eq.mpr c60
         clear c60
         by_cases c61 : (a0.size : Int) = 256
         ·rw [if_pos c61] at H
          have c61b0 : ((a0.size : Int) == 256) = true:=beq_iff_eq.mpr c61
          have c61b1 : ((a0.size : Int) != 256) = false:=bne_eq_false_iff_eq.mpr c61
          clear c61
          replace H:=Option.bind_eq_some_iff.mp H
          obtain ⟨t281,A620,H⟩:=H
          replace H : (if t281 = true then ((strings_Trim.f t275 (⟨#[0]⟩ : ByteArray)).bind fun t282 => (node_Read.j2 k2 (t282.toList != ([] : List UInt8)) true x248001_2 x248002_2 x248003_2)) else (node_Read.j2 k2 true true x248001_2 x248002_2 x248003_2)) = some (r1,r2,r3,r4,r5):=H
          have A62:=Aside0.mk A620
          clear A620
          by_cases c63 : t281 = true
          ·subst c63
           have H1 : ((strings_Trim.f t275 (⟨#[0]⟩ : ByteArray)).bind fun t282 => (node_Read.j2 k2 (t282.toList != ([] : List UInt8)) true x248001_2 x248002_2 x248003_2)) = some (r1,r2,r3,r4,r5):=by rw [if_pos rfl] at H;exact H
           clear H
           have H:=H1
           clear H1
           replace H:=Option.bind_eq_some_iff.mp H
           obtain ⟨t282,A640,H⟩:=H
           replace H : (node_Read.j2 k2 (t282.toList != ([] : List UInt8)) true x248001_2 x248002_2 x248003_2) = some (r1,r2,r3,r4,r5):=H
           have A64:=Aside0.mk A640
           clear A640
           as_aux_lemma =>
            have H':=Aside0.mk H
            clear H
            go_wp2_with (first|(go_at_call 17;(with_reducible refine (pack_Reader_Err.calls g240 t276 t277 t278 t279 t280 w _ ?side1 ?side2 A59.out).mono ?_);(case side1 => repeat (first|(with_reducible first|exact HI240.out|apply IsS62.alloc|apply IsS62.drewN|apply IsS62.drew|apply IsS62.set_0|apply IsS62.set_1|refine IsS62.far ?_ NB240_237.out _|refine IsS62.far ?_ NB240_247.out _)|exact HI240.out));(case side2 => repeat (first|(with_reducible first|exact HB.out|apply zl1|apply zl2|apply zl3|refine below_set ?_ (IsS62.ge HI240.out)|refine below_set ?_ GE237.out|refine below_set ?_ GE247.out)|exact HB.out));rintro e w65 ⟨rfl,hi,hb,hk⟩;replace HO_248001:=Aside0.mk (Kd.R_mono (Kd.R_keep (IsS62.apart (show IsS62 w _ g240 t276 t277 from by repeat (first|(with_reducible first|exact HI240.out|apply IsS62.alloc|apply IsS62.drewN|apply IsS62.drew|apply IsS62.set_0|apply IsS62.set_1|refine IsS62.far ?_ NB240_237.out _|refine IsS62.far ?_ NB240_247.out _)|exact HI240.out)) (by (with_reducible repeat (first|apply zk1|apply zk2|apply zk3));exact HO_248001.out) (by decide)) hk (fun _ h => h.2)) (fun _ h => h.1));replace HO_248002:=Aside0.mk (Kd.R_mono (Kd.R_keep (IsS62.apart (show IsS62 w _ g240 t276 t277 from by repeat (first|(with_reducible first|exact HI240.out|apply IsS62.alloc|apply IsS62.drewN|apply IsS62.drew|apply IsS62.set_0|apply IsS62.set_1|refine IsS62.far ?_ NB240_237.out _|refine IsS62.far ?_ NB240_247.out _)|exact HI240.out)) (by (with_reducible repeat (first|apply zk1|apply zk2|apply zk3));exact HO_248002.out) (by decide)) hk (fun _ h => h.2)) (fun _ h => h.1));replace HO_248003:=Aside0.mk (Kd.R_mono (Kd.R_keep (IsS62.apart (show IsS62 w _ g240 t276 t277 from by repeat (first|(with_reducible first|exact HI240.out|apply IsS62.alloc|apply IsS62.drewN|apply IsS62.drew|apply IsS62.set_0|apply IsS62.set_1|refine IsS62.far ?_ NB240_237.out _|refine IsS62.far ?_ NB240_247.out _)|exact HI240.out)) (by (with_reducible repeat (first|apply zk1|apply zk2|apply zk3));exact HO_248003.out) (by decide)) hk (fun _ h => h.2)) (fun _ h => h.1));replace BK237:=Aside0.mk (KeepBut.blk hk (g':=gb237) (o:=.cells #[.bool false,.slice none 0 0,.slice none 0 0,.slice none 0 0] 27 (0,0)) (by (with_reducible repeat (first|apply zb1|apply zb2|apply zb3));exact BK237.out) NB237_240.out (by simp));replace BK247:=Aside0.mk (KeepBut.blk hk (g':=gb247) (o:=.cells #[.bool true,u248001,u248002,u248003] 27 (0,0)) (by (with_reducible repeat (first|apply zb1|apply zb2|apply zb3));exact BK247.out) NB247_240.out (by simp));replace HB:=Aside0.mk (hb);replace HI240:=Aside0.mk (hi);(try clear hb);(try clear hk);(try clear hi);have hnb66:=NB247_237.out;have hnc66:=NB237_247.out;have hnb67:=NB247_240.out;have hnc67:=NB240_247.out;have hcz68_0 : w65.cell? ⟨gb247,0,none⟩ = some (.bool true):=(blk_cell BK247.out 0).trans rfl;have hcz68_1 : w65.cell? ⟨gb247,1,none⟩ = some (u248001):=(blk_cell BK247.out 1).trans rfl;have hcz68_2 : w65.cell? ⟨gb247,2,none⟩ = some (u248002):=(blk_cell BK247.out 2).trans rfl;have hcz68_3 : w65.cell? ⟨gb247,3,none⟩ = some (u248003):=(blk_cell BK247.out 3).trans rfl;have hfz68_0:=blk_frozen BK247.out 0;have hfz68_1:=blk_frozen BK247.out 1;have hfz68_2:=blk_frozen BK247.out 2;have hfz68_3:=blk_frozen BK247.out 3;obtain ⟨Ao69,co69,eo69⟩:=Kd.R_slice HO_248001.out;subst eo69;obtain ⟨Ao70,co70,eo70⟩:=Kd.R_slice HO_248002.out;subst eo70;obtain ⟨Ao71,co71,eo71⟩:=Kd.R_slice HO_248003.out;subst eo71)|(go_at_call 18;(with_reducible refine (node_right.calls k2 true _ _ x248001_2 _ _ x248002_2 _ _ x248003_2 true _ ?side1 ?side2 ?side3 ?side4 ?side5 ?side6 A62.out).mono ?_);(case side1 => repeat (first|exact (Kd.R_reads' HO_248001.out).2.2|(with_reducible refine Kd.C_alloc ?_ _)|(with_reducible refine Kd.C_drewN ?_ _)|(with_reducible refine Kd.C_drew ?_)));(case side2 => exact (Kd.R_reads' HO_248001.out).2.1);(case side3 => repeat (first|exact (Kd.R_reads' HO_248002.out).2.2|(with_reducible refine Kd.C_alloc ?_ _)|(with_reducible refine Kd.C_drewN ?_ _)|(with_reducible refine Kd.C_drew ?_)));(case side4 => exact (Kd.R_reads' HO_248002.out).2.1);(case side5 => repeat (first|exact (Kd.R_reads' HO_248003.out).2.2|(with_reducible refine Kd.C_alloc ?_ _)|(with_reducible refine Kd.C_drewN ?_ _)|(with_reducible refine Kd.C_drew ?_)));(case side6 => exact (Kd.R_reads' HO_248003.out).2.1);rintro e w72 ⟨rfl,hb⟩;replace HO_248001:=Aside0.mk (Kd.R_below (by (with_reducible repeat (first|apply zk1|apply zk2|apply zk3));exact HO_248001.out) hb);replace HO_248002:=Aside0.mk (Kd.R_below (by (with_reducible repeat (first|apply zk1|apply zk2|apply zk3));exact HO_248002.out) hb);replace HO_248003:=Aside0.mk (Kd.R_below (by (with_reducible repeat (first|apply zk1|apply zk2|apply zk3));exact HO_248003.out) hb);replace BK237:=Aside0.mk (blk_below (g:=gb237) (o:=.cells #[.bool false,.slice none 0 0,.slice none 0 0,.slice none 0 0] 27 (0,0)) (by (with_reducible repeat (first|apply zb1|apply zb2|apply zb3));exact BK237.out) hb);replace BK247:=Aside0.mk (blk_below (g:=gb247) (o:=.cells #[.bool true,.slice Ao69 x248001_2.length co69,.slice Ao70 x248002_2.length co70,.slice Ao71 x248003_2.length co71] 27 (0,0)) (by (with_reducible repeat (first|apply zb1|apply zb2|apply zb3));exact BK247.out) hb);replace HB:=Aside0.mk (below_step (by repeat (first|(with_reducible first|exact HB.out|apply zl1|apply zl2|apply zl3|refine below_set ?_ (IsS62.ge HI240.out)|refine below_set ?_ GE237.out|refine below_set ?_ GE247.out)|exact HB.out)) hb);replace HI240:=Aside0.mk (IsS62.below (by repeat (first|(with_reducible first|exact HI240.out|apply IsS62.alloc|apply IsS62.drewN|apply IsS62.drew|apply IsS62.set_0|apply IsS62.set_1|refine IsS62.far ?_ NB240_237.out _|refine IsS62.far ?_ NB240_247.out _)|exact HI240.out)) hb);(try clear hb))|(go_at_call 19;(with_reducible refine (strings_Trim.calls t275 (⟨#[0]⟩ : ByteArray) t282 _ A64.out).mono ?_);rintro e w73 ⟨rfl,hb⟩;replace HO_248001:=Aside0.mk (Kd.R_below (by (with_reducible repeat (first|apply zk1|apply zk2|apply zk3));exact HO_248001.out) hb);replace HO_248002:=Aside0.mk (Kd.R_below (by (with_reducible repeat (first|apply zk1|apply zk2|apply zk3));exact HO_248002.out) hb);replace HO_248003:=Aside0.mk (Kd.R_below (by (with_reducible repeat (first|apply zk1|apply zk2|apply zk3));exact HO_248003.out) hb);replace BK237:=Aside0.mk (blk_below (g:=gb237) (o:=.cells #[.bool false,.slice none 0 0,.slice none 0 0,.slice none 0 0] 27 (0,0)) (by (with_reducible repeat (first|apply zb1|apply zb2|apply zb3));exact BK237.out) hb);replace BK247:=Aside0.mk (blk_below (g:=gb247) (o:=.cells #[.bool true,.slice Ao69 x248001_2.length co69,.slice Ao70 x248002_2.length co70,.slice Ao71 x248003_2.length co71] 27 (0,0)) (by (with_reducible repeat (first|apply zb1|apply zb2|apply zb3));exact BK247.out) hb);replace HB:=Aside0.mk (below_step (by repeat (first|(with_reducible first|exact HB.out|apply zl1|apply zl2|apply zl3|refine below_set ?_ (IsS62.ge HI240.out)|refine below_set ?_ GE237.out|refine below_set ?_ GE247.out)|exact HB.out)) hb);replace HI240:=Aside0.mk (IsS62.below (by repeat (first|(with_reducible first|exact HI240.out|apply IsS62.alloc|apply IsS62.drewN|apply IsS62.drew|apply IsS62.set_0|apply IsS62.set_1|refine IsS62.far ?_ NB240_237.out _|refine IsS62.far ?_ NB240_247.out _)|exact HI240.out)) hb);(try clear hb)))
            go_meet
            case rel => exact ⟨_,((t282.toList != ([] : List UInt8))),(by first|(with_reducible rfl)|(simp;done)|(simp [*];done)|rfl|(simp only [not_isEmpty_bne])),(by first|exact H'|(rw [c58b0];exact H')),⟨by have:=HJ4.out;have:=HK2.out;first|omega|exact Nat.le_refl _⟩,⟨by (with_reducible repeat (first|apply zk1|apply zk2|apply zk3));exact HO_248001.out⟩,⟨by (with_reducible repeat (first|apply zk1|apply zk2|apply zk3));exact HO_248002.out⟩,⟨by (with_reducible repeat (first|apply zk1|apply zk2|apply zk3));exact HO_248003.out⟩,⟨by (with_reducible repeat (first|apply zb1|apply zb2|apply zb3));exact BK237.out⟩,⟨by (with_reducible repeat (first|apply zb1|apply zb2|apply zb3));(first|exact BK247.out|(rw [c58b0];exact BK247.out))⟩,⟨by repeat (first|(with_reducible first|exact HB.out|apply zl1|apply zl2|apply zl3|refine below_set ?_ (IsS62.ge HI240.out)|refine below_set ?_ GE237.out|refine below_set ?_ GE247.out)|exact HB.out)⟩⟩
          ·replace c63:=Bool.eq_false_iff.mpr c63
           subst c63
           have H1 : (node_Read.j2 k2 true true x248001_2 x248002_2 x248003_2) = some (r1,r2,r3,r4,r5):=by rw [if_neg (show ¬ (false = true) by decide)] at H;exact H
           clear H
           have H:=H1
           clear H1
           as_aux_lemma =>
            have H':=Aside0.mk H
            clear H
            go_wp2_with (first|(go_at_call 17;(with_reducible refine (pack_Reader_Err.calls g240 t276 t277 t278 t279 t280 w _ ?side1 ?side2 A59.out).mono ?_);(case side1 => repeat (first|(with_reducible first|exact HI240.out|apply IsS62.alloc|apply IsS62.drewN|apply IsS62.drew|apply IsS62.set_0|apply IsS62.set_1|refine IsS62.far ?_ NB240_237.out _|refine IsS62.far ?_ NB240_247.out _)|exact HI240.out));(case side2 => repeat (first|(with_reducible first|exact HB.out|apply zl1|apply zl2|apply zl3|refine below_set ?_ (IsS62.ge HI240.out)|refine below_set ?_ GE237.out|refine below_set ?_ GE247.out)|exact HB.out));rintro e w74 ⟨rfl,hi,hb,hk⟩;replace HO_248001:=Aside0.mk (Kd.R_mono (Kd.R_keep (IsS62.apart (show IsS62 w _ g240 t276 t277 from by repeat (first|(with_reducible first|exact HI240.out|apply IsS62.alloc|apply IsS62.drewN|apply IsS62.drew|apply IsS62.set_0|apply IsS62.set_1|refine IsS62.far ?_ NB240_237.out _|refine IsS62.far ?_ NB240_247.out _)|exact HI240.out)) (by (with_reducible repeat (first|apply zk1|apply zk2|apply zk3));exact HO_248001.out) (by decide)) hk (fun _ h => h.2)) (fun _ h => h.1));replace HO_248002:=Aside0.mk (Kd.R_mono (Kd.R_keep (IsS62.apart (show IsS62 w _ g240 t276 t277 from by repeat (first|(with_reducible first|exact HI240.out|apply IsS62.alloc|apply IsS62.drewN|apply IsS62.drew|apply IsS62.set_0|apply IsS62.set_1|refine IsS62.far ?_ NB240_237.out _|refine IsS62.far ?_ NB240_247.out _)|exact HI240.out)) (by (with_reducible repeat (first|apply zk1|apply zk2|apply zk3));exact HO_248002.out) (by decide)) hk (fun _ h => h.2)) (fun _ h => h.1));replace HO_248003:=Aside0.mk (Kd.R_mono (Kd.R_keep (IsS62.apart (show IsS62 w _ g240 t276 t277 from by repeat (first|(with_reducible first|exact HI240.out|apply IsS62.alloc|apply IsS62.drewN|apply IsS62.drew|apply IsS62.set_0|apply IsS62.set_1|refine IsS62.far ?_ NB240_237.out _|refine IsS62.far ?_ NB240_247.out _)|exact HI240.out)) (by (with_reducible repeat (first|apply zk1|apply zk2|apply zk3));exact HO_248003.out) (by decide)) hk (fun _ h => h.2)) (fun _ h => h.1));replace BK237:=Aside0.mk (KeepBut.blk hk (g':=gb237) (o:=.cells #[.bool false,.slice none 0 0,.slice none 0 0,.slice none 0 0] 27 (0,0)) (by (with_reducible repeat (first|apply zb1|apply zb2|apply zb3));exact BK237.out) NB237_240.out (by simp));replace BK247:=Aside0.mk (KeepBut.blk hk (g':=gb247) (o:=.cells #[.bool true,u248001,u248002,u248003] 27 (0,0)) (by (with_reducible repeat (first|apply zb1|apply zb2|apply zb3));exact BK247.out) NB247_240.out (by simp));replace HB:=Aside0.mk (hb);replace HI240:=Aside0.mk (hi);(try clear hb);(try clear hk);(try clear hi);have hnb75:=NB247_237.out;have hnc75:=NB237_247.out;have hnb76:=NB247_240.out;have hnc76:=NB240_247.out;have hcz77_0 : w74.cell? ⟨gb247,0,none⟩ = some (.bool true):=(blk_cell BK247.out 0).trans rfl;have hcz77_1 : w74.cell? ⟨gb247,1,none⟩ = some (u248001):=(blk_cell BK247.out 1).trans rfl;have hcz77_2 : w74.cell? ⟨gb247,2,none⟩ = some (u248002):=(blk_cell BK247.out 2).trans rfl;have hcz77_3 : w74.cell? ⟨gb247,3,none⟩ = some (u248003):=(blk_cell BK247.out 3).trans rfl;have hfz77_0:=blk_frozen BK247.out 0;have hfz77_1:=blk_frozen BK247.out 1;have hfz77_2:=blk_frozen BK247.out 2;have hfz77_3:=blk_frozen BK247.out 3;obtain ⟨Ao78,co78,eo78⟩:=Kd.R_slice HO_248001.out;subst eo78;obtain ⟨Ao79,co79,eo79⟩:=Kd.R_slice HO_248002.out;subst eo79;obtain ⟨Ao80,co80,eo80⟩:=Kd.R_slice HO_248003.out;subst eo80)|(go_at_call 18;(with_reducible refine (node_right.calls k2 true _ _ x248001_2 _ _ x248002_2 _ _ x248003_2 false _ ?side1 ?side2 ?side3 ?side4 ?side5 ?side6 A62.out).mono ?_);(case side1 => repeat (first|exact (Kd.R_reads' HO_248001.out).2.2|(with_reducible refine Kd.C_alloc ?_ _)|(with_reducible refine Kd.C_drewN ?_ _)|(with_reducible refine Kd.C_drew ?_)));(case side2 => exact (Kd.R_reads' HO_248001.out).2.1);(case side3 => repeat (first|exact (Kd.R_reads' HO_248002.out).2.2|(with_reducible refine Kd.C_alloc ?_ _)|(with_reducible refine Kd.C_drewN ?_ _)|(with_reducible refine Kd.C_drew ?_)));(case side4 => exact (Kd.R_reads' HO_248002.out).2.1);(case side5 => repeat (first|exact (Kd.R_reads' HO_248003.out).2.2|(with_reducible refine Kd.C_alloc ?_ _)|(with_reducible refine Kd.C_drewN ?_ _)|(with_reducible refine Kd.C_drew ?_)));(case side6 => exact (Kd.R_reads' HO_248003.out).2.1);rintro e w81 ⟨rfl,hb⟩;replace HO_248001:=Aside0.mk (Kd.R_below (by (with_reducible repeat (first|apply zk1|apply zk2|apply zk3));exact HO_248001.out) hb);replace HO_248002:=Aside0.mk (Kd.R_below (by (with_reducible repeat (first|apply zk1|apply zk2|apply zk3));exact HO_248002.out) hb);replace HO_248003:=Aside0.mk (Kd.R_below (by (with_reducible repeat (first|apply zk1|apply zk2|apply zk3));exact HO_248003.out) hb);replace BK237:=Aside0.mk (blk_below (g:=gb237) (o:=.cells #[.bool false,.slice none 0 0,.slice none 0 0,.slice none 0 0] 27 (0,0)) (by (with_reducible repeat (first|apply zb1|apply zb2|apply zb3));exact BK237.out) hb);replace BK247:=Aside0.mk (blk_below (g:=gb247) (o:=.cells #[.bool true,.slice Ao78 x248001_2.length co78,.slice Ao79 x248002_2.length co79,.slice Ao80 x248003_2.length co80] 27 (0,0)) (by (with_reducible repeat (first|apply zb1|apply zb2|apply zb3));exact BK247.out) hb);replace HB:=Aside0.mk (below_step (by repeat (first|(with_reducible first|exact HB.out|apply zl1|apply zl2|apply zl3|refine below_set ?_ (IsS62.ge HI240.out)|refine below_set ?_ GE237.out|refine below_set ?_ GE247.out)|exact HB.out)) hb);replace HI240:=Aside0.mk (IsS62.below (by repeat (first|(with_reducible first|exact HI240.out|apply IsS62.alloc|apply IsS62.drewN|apply IsS62.drew|apply IsS62.set_0|apply IsS62.set_1|refine IsS62.far ?_ NB240_237.out _|refine IsS62.far ?_ NB240_247.out _)|exact HI240.out)) hb);(try clear hb)))
            go_meet
            case rel => exact ⟨_,(true),(by first|(with_reducible rfl)|(simp;done)|(simp [*];done)|rfl|(simp only [not_isEmpty_bne])),(by first|exact H'|(rw [c58b0];exact H')),⟨by have:=HJ4.out;have:=HK2.out;first|omega|exact Nat.le_refl _⟩,⟨by (with_reducible repeat (first|apply zk1|apply zk2|apply zk3));exact HO_248001.out⟩,⟨by (with_reducible repeat (first|apply zk1|apply zk2|apply zk3));exact HO_248002.out⟩,⟨by (with_reducible repeat (first|apply zk1|apply zk2|apply zk3));exact HO_248003.out⟩,⟨by (with_reducible repeat (first|apply zb1|apply zb2|apply zb3));exact BK237.out⟩,⟨by (with_reducible repeat (first|apply zb1|apply zb2|apply zb3));(first|exact BK247.out|(rw [c58b0];exact BK247.out))⟩,⟨by repeat (first|(with_reducible first|exact HB.out|apply zl1|apply zl2|apply zl3|refine below_set ?_ (IsS62.ge HI240.out)|refine below_set ?_ GE237.out|refine below_set ?_ GE247.out)|exact HB.out)⟩⟩
         ·rw [if_neg c61] at H
          have c61b0 : ((a0.size : Int) == 256) = false:=beq_eq_false_iff_ne.mpr c61
          have c61b1 : ((a0.size : Int) != 256) = true:=bne_iff_ne.mpr c61
          as_aux_lemma =>
           have H':=Aside0.mk H
           clear H
           go_wp2_with (first|(go_at_call 17;(with_reducible refine (pack_Reader_Err.calls g240 t276 t277 t278 t279 t280 w _ ?side1 ?side2 A59.out).mono ?_);(case side1 => repeat (first|(with_reducible first|exact HI240.out|apply IsS62.alloc|apply IsS62.drewN|apply IsS62.drew|apply IsS62.set_0|apply IsS62.set_1|refine IsS62.far ?_ NB240_237.out _|refine IsS62.far ?_ NB240_247.out _)|exact HI240.out));(case side2 => repeat (first|(with_reducible first|exact HB.out|apply zl1|apply zl2|apply zl3|refine below_set ?_ (IsS62.ge HI240.out)|refine below_set ?_ GE237.out|refine below_set ?_ GE247.out)|exact HB.out));rintro e w82 ⟨rfl,hi,hb,hk⟩;replace HO_248001:=Aside0.mk (Kd.R_mono (Kd.R_keep (IsS62.apart (show IsS62 w _ g240 t276 t277 from by repeat (first|(with_reducible first|exact HI240.out|apply IsS62.alloc|apply IsS62.drewN|apply IsS62.drew|apply IsS62.set_0|apply IsS62.set_1|refine IsS62.far ?_ NB240_237.out _|refine IsS62.far ?_ NB240_247.out _)|exact HI240.out)) (by (with_reducible repeat (first|apply zk1|apply zk2|apply zk3));exact HO_248001.out) (by decide)) hk (fun _ h => h.2)) (fun _ h => h.1));replace HO_248002:=Aside0.mk (Kd.R_mono (Kd.R_keep (IsS62.apart (show IsS62 w _ g240 t276 t277 from by repeat (first|(with_reducible first|exact HI240.out|apply IsS62.alloc|apply IsS62.drewN|apply IsS62.drew|apply IsS62.set_0|apply IsS62.set_1|refine IsS62.far ?_ NB240_237.out _|refine IsS62.far ?_ NB240_247.out _)|exact HI240.out)) (by (with_reducible repeat (first|apply zk1|apply zk2|apply zk3));exact HO_248002.out) (by decide)) hk (fun _ h => h.2)) (fun _ h => h.1));replace HO_248003:=Aside0.mk (Kd.R_mono (Kd.R_keep (IsS62.apart (show IsS62 w _ g240 t276 t277 from by repeat (first|(with_reducible first|exact HI240.out|apply IsS62.alloc|apply IsS62.drewN|apply IsS62.drew|apply IsS62.set_0|apply IsS62.set_1|refine IsS62.far ?_ NB240_237.out _|refine IsS62.far ?_ NB240_247.out _)|exact HI240.out)) (by (with_reducible repeat (first|apply zk1|apply zk2|apply zk3));exact HO_248003.out) (by decide)) hk (fun _ h => h.2)) (fun _ h => h.1));replace BK237:=Aside0.mk (KeepBut.blk hk (g':=gb237) (o:=.cells #[.bool false,.slice none 0 0,.slice none 0 0,.slice none 0 0] 27 (0,0)) (by (with_reducible repeat (first|apply zb1|apply zb2|apply zb3));exact BK237.out) NB237_240.out (by simp));replace BK247:=Aside0.mk (KeepBut.blk hk (g':=gb247) (o:=.cells #[.bool true,u248001,u248002,u248003] 27 (0,0)) (by (with_reducible repeat (first|apply zb1|apply zb2|apply zb3));exact BK247.out) NB247_240.out (by simp));replace HB:=Aside0.mk (hb);replace HI240:=Aside0.mk (hi);(try clear hb);(try clear hk);(try clear hi)))
           go_meet
           case rel => exact ⟨_,(true),(by first|(with_reducible rfl)|(simp;done)|(simp [*];done)|rfl|(simp only [not_isEmpty_bne])),(by first|exact H'|(rw [c58b0];exact H')),⟨by have:=HJ4.out;have:=HK2.out;first|omega|exact Nat.le_refl _⟩,⟨by (with_reducible repeat (first|apply zk1|apply zk2|apply zk3));exact HO_248001.out⟩,⟨by (with_reducible repeat (first|apply zk1|apply zk2|apply zk3));exact HO_248002.out⟩,⟨by (with_reducible repeat (first|apply zk1|apply zk2|apply zk3));exact HO_248003.out⟩,⟨by (with_reducible repeat (first|apply zb1|apply zb2|apply zb3));exact BK237.out⟩,⟨by (with_reducible repeat (first|apply zb1|apply zb2|apply zb3));(first|exact BK247.out|(rw [c58b0];exact BK247.out))⟩,⟨by repeat (first|(with_reducible first|exact HB.out|apply zl1|apply zl2|apply zl3|refine below_set ?_ (IsS62.ge HI240.out)|refine below_set ?_ GE237.out|refine below_set ?_ GE247.out)|exact HB.out)⟩⟩
        ·rw [if_neg c60] at H
         have c60b0 : (t278 == 0) = false:=beq_eq_false_iff_ne.mpr c60
         have c60b1 : (t278 != 0) = true:=bne_iff_ne.mpr c60
         as_aux_lemma =>
          have H':=Aside0.mk H
          clear H
          go_wp2_with (first|(go_at_call 17;(with_reducible refine (pack_Reader_Err.calls g240 t276 t277 t278 t279 t280 w _ ?side1 ?side2 A59.out).mono ?_);(case side1 => repeat (first|(with_reducible first|exact HI240.out|apply IsS62.alloc|apply IsS62.drewN|apply IsS62.drew|apply IsS62.set_0|apply IsS62.set_1|refine IsS62.far ?_ NB240_237.out _|refine IsS62.far ?_ NB240_247.out _)|exact HI240.out));(case side2 => repeat (first|(with_reducible first|exact HB.out|apply zl1|apply zl2|apply zl3|refine below_set ?_ (IsS62.ge HI240.out)|refine below_set ?_ GE237.out|refine below_set ?_ GE247.out)|exact HB.out));rintro e w83 ⟨rfl,hi,hb,hk⟩;replace HO_248001:=Aside0.mk (Kd.R_mono (Kd.R_keep (IsS62.apart (show IsS62 w _ g240 t276 t277 from by repeat (first|(with_reducible first|exact HI240.out|apply IsS62.alloc|apply IsS62.drewN|apply IsS62.drew|apply IsS62.set_0|apply IsS62.set_1|refine IsS62.far ?_ NB240_237.out _|refine IsS62.far ?_ NB240_247.out _)|exact HI240.out)) (by (with_reducible repeat (first|apply zk1|apply zk2|apply zk3));exact HO_248001.out) (by decide)) hk (fun _ h => h.2)) (fun _ h => h.1));replace HO_248002:=Aside0.mk (Kd.R_mono (Kd.R_keep (IsS62.apart (show IsS62 w _ g240 t276 t277 from by repeat (first|(with_reducible first|exact HI240.out|apply IsS62.alloc|apply IsS62.drewN|apply IsS62.drew|apply IsS62.set_0|apply IsS62.set_1|refine IsS62.far ?_ NB240_237.out _|refine IsS62.far ?_ NB240_247.out _)|exact HI240.out)) (by (with_reducible repeat (first|apply zk1|apply zk2|apply zk3));exact HO_248002.out) (by decide)) hk (fun _ h => h.2)) (fun _ h => h.1));replace HO_248003:=Aside0.mk (Kd.R_mono (Kd.R_keep (IsS62.apart (show IsS62 w _ g240 t276 t277 from by repeat (first|(with_reducible first|exact HI240.out|apply IsS62.alloc|apply IsS62.drewN|apply IsS62.drew|apply IsS62.set_0|apply IsS62.set_1|refine IsS62.far ?_ NB240_237.out _|refine IsS62.far ?_ NB240_247.out _)|exact HI240.out)) (by (with_reducible repeat (first|apply zk1|apply zk2|apply zk3));exact HO_248003.out) (by decide)) hk (fun _ h => h.2)) (fun _ h => h.1));replace BK237:=Aside0.mk (KeepBut.blk hk (g':=gb237) (o:=.cells #[.bool false,.slice none 0 0,.slice none 0 0,.slice none 0 0] 27 (0,0)) (by (with_reducible repeat (first|apply zb1|apply zb2|apply zb3));exact BK237.out) NB237_240.out (by simp));replace BK247:=Aside0.mk (KeepBut.blk hk (g':=gb247) (o:=.cells #[.bool true,u248001,u248002,u248003] 27 (0,0)) (by (with_reducible repeat (first|apply zb1|apply zb2|apply zb3));exact BK247.out) NB247_240.out (by simp));replace HB:=Aside0.mk (hb);replace HI240:=Aside0.mk (hi);(try clear hb);(try clear hk);(try clear hi)))
          go_meet
          case rel => exact ⟨_,(true),(by first|(with_reducible rfl)|(simp;done)|(simp [*];done)|rfl|(simp only [not_isEmpty_bne])),(by first|exact H'|(rw [c58b0];exact H')),⟨by have:=HJ4.out;have:=HK2.out;first|omega|exact Nat.le_refl _⟩,⟨by (with_reducible repeat (first|apply zk1|apply zk2|apply zk3));exact HO_248001.out⟩,⟨by (with_reducible repeat (first|apply zk1|apply zk2|apply zk3));exact HO_248002.out⟩,⟨by (with_reducible repeat (first|apply zk1|apply zk2|apply zk3));exact HO_248003.out⟩,⟨by (with_reducible repeat (first|apply zb1|apply zb2|apply zb3));exact BK237.out⟩,⟨by (with_reducible repeat (first|apply zb1|apply zb2|apply zb3));(first|exact BK247.out|(rw [c58b0];exact BK247.out))⟩,⟨by repeat (first|(with_reducible first|exact HB.out|apply zl1|apply zl2|apply zl3|refine below_set ?_ (IsS62.ge HI240.out)|refine below_set ?_ GE237.out|refine below_set ?_ GE247.out)|exact HB.out)⟩⟩
       ·rw [if_neg c58] at H
        have c58b0 : (t241 == 1) = false:=beq_eq_false_iff_ne.mpr c58
        (try rw [c58b0] at H);(try rw [c58b0] at BK247)
        have c58b1 : (t241 != 1) = true:=bne_iff_ne.mpr c58
        (first|rw [c58b0]|(simp only [i64_w,i32_w];rw [c58b0])|skip)
        by_cases c84 : t241 = 2
        ·rw [if_pos c84] at H
         have c84b0 : (t241 == 2) = true:=beq_iff_eq.mpr c84
         have c84b1 : (t241 != 2) = false:=bne_eq_false_iff_eq.mpr c84
         clear c84
         replace H:=Option.bind_eq_some_iff.mp H
         obtain ⟨⟨t283,t284,t285⟩,A850,H⟩:=H
         replace H : (if t283 = 0 then (if (a0.size : Int) = 256 then ((node_right.f k2 false x248001_2 x248002_2 x248003_2).bind fun t286 => (if t286 = true then ((strings_Trim.f t275 (⟨#[0]⟩ : ByteArray)).bind fun t287 => (node_Read.j2 k2 (t287.toList != ([] : List UInt8)) false x248001_2 x248002_2 x248003_2)) else (node_Read.j2 k2 true false x248001_2 x248002_2 x248003_2))) else (node_Read.j2 k2 true false x248001_2 x248002_2 x248003_2)) else (node_Read.j2 k2 true false x248001_2 x248002_2 x248003_2)) = some (r1,r2,r3,r4,r5):=H
         have A85:=Aside0.mk A850
         clear A850
         by_cases c86 : t283 = 0
         ·rw [if_pos c86] at H
          have c86b0 : (t283 == 0) = true:=beq_iff_eq.mpr c86
          have c86b1 : (t283 != 0) = false:=bne_eq_false_iff_eq.mpr c86
          clear c86
          by_cases c87 : (a0.size : Int) = 256
          ·rw [if_pos c87] at H
           have c87b0 : ((a0.size : Int) == 256) = true:=beq_iff_eq.mpr c87
           have c87b1 : ((a0.size : Int) != 256) = false:=bne_eq_false_iff_eq.mpr c87
           clear c87
           replace H:=Option.bind_eq_some_iff.mp H
           obtain ⟨t286,A880,H⟩:=H
           replace H : (if t286 = true then ((strings_Trim.f t275 (⟨#[0]⟩ : ByteArray)).bind fun t287 => (node_Read.j2 k2 (t287.toList != ([] : List UInt8)) false x248001_2 x248002_2 x248003_2)) else (node_Read.j2 k2 true false x248001_2 x248002_2 x248003_2)) = some (r1,r2,r3,r4,r5):=H
           have A88:=Aside0.mk A880
           clear A880
           by_cases c89 : t286 = true
           ·subst c89
            have H1 : ((strings_Trim.f t275 (⟨#[0]⟩ : ByteArray)).bind fun t287 => (node_Read.j2 k2 (t287.toList != ([] : List UInt8)) false x248001_2 x248002_2 x248003_2)) = some (r1,r2,r3,r4,r5):=by rw [if_pos rfl] at H;exact H
            clear H
            have H:=H1
            clear H1
            replace H:=Option.bind_eq_some_iff.mp H
            obtain ⟨t287,A900,H⟩:=H
            replace H : (node_Read.j2 k2 (t287.toList != ([] : List UInt8)) false x248001_2 x248002_2 x248003_2) = some (r1,r2,r3,r4,r5):=H
            have A90:=Aside0.mk A900
            clear A900
            as_aux_lemma =>
             have H':=Aside0.mk H
             clear H
             go_wp2_with (first|(go_at_call 17;(with_reducible refine (pack_Reader_Err.calls g240 t276 t277 t283 t284 t285 w _ ?side1 ?side2 A85.out).mono ?_);(case side1 => repeat (first|(with_reducible first|exact HI240.out|apply IsS62.alloc|apply IsS62.drewN|apply IsS62.drew|apply IsS62.set_0|apply IsS62.set_1|refine IsS62.far ?_ NB240_237.out _|refine IsS62.far ?_ NB240_247.out _)|exact HI240.out));(case side2 => repeat (first|(with_reducible first|exact HB.out|apply zl1|apply zl2|apply zl3|refine below_set ?_ (IsS62.ge HI240.out)|refine below_set ?_ GE237.out|refine below_set ?_ GE247.out)|exact HB.out));rintro e w91 ⟨rfl,hi,hb,hk⟩;replace HO_248001:=Aside0.mk (Kd.R_mono (Kd.R_keep (IsS62.apart (show IsS62 w _ g240 t276 t277 from by repeat (first|(with_reducible first|exact HI240.out|apply IsS62.alloc|apply IsS62.drewN|apply IsS62.drew|apply IsS62.set_0|apply IsS62.set_1|refine IsS62.far ?_ NB240_237.out _|refine IsS62.far ?_ NB240_247.out _)|exact HI240.out)) (by (with_reducible repeat (first|apply zk1|apply zk2|apply zk3));exact HO_248001.out) (by decide)) hk (fun _ h => h.2)) (fun _ h => h.1));replace HO_248002:=Aside0.mk (Kd.R_mono (Kd.R_keep (IsS62.apart (show IsS62 w _ g240 t276 t277 from by repeat (first|(with_reducible first|exact HI240.out|apply IsS62.alloc|apply IsS62.drewN|apply IsS62.drew|apply IsS62.set_0|apply IsS62.set_1|refine IsS62.far ?_ NB240_237.out _|refine IsS62.far ?_ NB240_247.out _)|exact HI240.out)) (by (with_reducible repeat (first|apply zk1|apply zk2|apply zk3));exact HO_248002.out) (by decide)) hk (fun _ h => h.2)) (fun _ h => h.1));replace HO_248003:=Aside0.mk (Kd.R_mono (Kd.R_keep (IsS62.apart (show IsS62 w _ g240 t276 t277 from by repeat (first|(with_reducible first|exact HI240.out|apply IsS62.alloc|apply IsS62.drewN|apply IsS62.drew|apply IsS62.set_0|apply IsS62.set_1|refine IsS62.far ?_ NB240_237.out _|refine IsS62.far ?_ NB240_247.out _)|exact HI240.out)) (by (with_reducible repeat (first|apply zk1|apply zk2|apply zk3));exact HO_248003.out) (by decide)) hk (fun _ h => h.2)) (fun _ h => h.1));replace BK237:=Aside0.mk (KeepBut.blk hk (g':=gb237) (o:=.cells #[.bool false,.slice none 0 0,.slice none 0 0,.slice none 0 0] 27 (0,0)) (by (with_reducible repeat (first|apply zb1|apply zb2|apply zb3));exact BK237.out) NB237_240.out (by simp));replace BK247:=Aside0.mk (KeepBut.blk hk (g':=gb247) (o:=.cells #[.bool false,u248001,u248002,u248003] 27 (0,0)) (by (with_reducible repeat (first|apply zb1|apply zb2|apply zb3));exact BK247.out) NB247_240.out (by simp));replace HB:=Aside0.mk (hb);replace HI240:=Aside0.mk (hi);(try clear hb);(try clear hk);(try clear hi);have hnb92:=NB247_237.out;have hnc92:=NB237_247.out;have hnb93:=NB247_240.out;have hnc93:=NB240_247.out;have hcz94_0 : w91.cell? ⟨gb247,0,none⟩ = some (.bool false):=(blk_cell BK247.out 0).trans rfl;have hcz94_1 : w91.cell? ⟨gb247,1,none⟩ = some (u248001):=(blk_cell BK247.out 1).trans rfl;have hcz94_2 : w91.cell? ⟨gb247,2,none⟩ = some (u248002):=(blk_cell BK247.out 2).trans rfl;have hcz94_3 : w91.cell? ⟨gb247,3,none⟩ = some (u248003):=(blk_cell BK247.out 3).trans rfl;have hfz94_0:=blk_frozen BK247.out 0;have hfz94_1:=blk_frozen BK247.out 1;have hfz94_2:=blk_frozen BK247.out 2;have hfz94_3:=blk_frozen BK247.out 3;obtain ⟨Ao95,co95,eo95⟩:=Kd.R_slice HO_248001.out;subst eo95;obtain ⟨Ao96,co96,eo96⟩:=Kd.R_slice HO_248002.out;subst eo96;obtain ⟨Ao97,co97,eo97⟩:=Kd.R_slice HO_248003.out;subst eo97)|(go_at_call 18;(with_reducible refine (node_right.calls k2 false _ _ x248001_2 _ _ x248002_2 _ _ x248003_2 true _ ?side1 ?side2 ?side3 ?side4 ?side5 ?side6 A88.out).mono ?_);(case side1 => repeat (first|exact (Kd.R_reads' HO_248001.out).2.2|(with_reducible refine Kd.C_alloc ?_ _)|(with_reducible refine Kd.C_drewN ?_ _)|(with_reducible refine Kd.C_drew ?_)));(case side2 => exact (Kd.R_reads' HO_248001.out).2.1);(case side3 => repeat (first|exact (Kd.R_reads' HO_248002.out).2.2|(with_reducible refine Kd.C_alloc ?_ _)|(with_reducible refine Kd.C_drewN ?_ _)|(with_reducible refine Kd.C_drew ?_)));(case side4 => exact (Kd.R_reads' HO_248002.out).2.1);(case side5 => repeat (first|exact (Kd.R_reads' HO_248003.out).2.2|(with_reducible refine Kd.C_alloc ?_ _)|(with_reducible refine Kd.C_drewN ?_ _)|(with_reducible refine Kd.C_drew ?_)));(case side6 => exact (Kd.R_reads' HO_248003.out).2.1);rintro e w98 ⟨rfl,hb⟩;replace HO_248001:=Aside0.mk (Kd.R_below (by (with_reducible repeat (first|apply zk1|apply zk2|apply zk3));exact HO_248001.out) hb);replace HO_248002:=Aside0.mk (Kd.R_below (by (with_reducible repeat (first|apply zk1|apply zk2|apply zk3));exact HO_248002.out) hb);replace HO_248003:=Aside0.mk (Kd.R_below (by (with_reducible repeat (first|apply zk1|apply zk2|apply zk3));exact HO_248003.out) hb);replace BK237:=Aside0.mk (blk_below (g:=gb237) (o:=.cells #[.bool false,.slice none 0 0,.slice none 0 0,.slice none 0 0] 27 (0,0)) (by (with_reducible repeat (first|apply zb1|apply zb2|apply zb3));exact BK237.out) hb);replace BK247:=Aside0.mk (blk_below (g:=gb247) (o:=.cells #[.bool false,.slice Ao95 x248001_2.length co95,.slice Ao96 x248002_2.length co96,.slice Ao97 x248003_2.length co97] 27 (0,0)) (by (with_reducible repeat (first|apply zb1|apply zb2|apply zb3));exact BK247.out) hb);replace HB:=Aside0.mk (below_step (by repeat (first|(with_reducible first|exact HB.out|apply zl1|apply zl2|apply zl3|refine below_set ?_ (IsS62.ge HI240.out)|refine below_set ?_ GE237.out|refine below_set ?_ GE247.out)|exact HB.out)) hb);replace HI240:=Aside0.mk (IsS62.below (by repeat (first|(with_reducible first|exact HI240.out|apply IsS62.alloc|apply IsS62.drewN|apply IsS62.drew|apply IsS62.set_0|apply IsS62.set_1|refine IsS62.far ?_ NB240_237.out _|refine IsS62.far ?_ NB240_247.out _)|exact HI240.out)) hb);(try clear hb))|(go_at_call 19;(with_reducible refine (strings_Trim.calls t275 (⟨#[0]⟩ : ByteArray) t287 _ A90.out).mono ?_);rintro e w99 ⟨rfl,hb⟩;replace HO_248001:=Aside0.mk (Kd.R_below (by (with_reducible repeat (first|apply zk1|apply zk2|apply zk3));exact HO_248001.out) hb);replace HO_248002:=Aside0.mk (Kd.R_below (by (with_reducible repeat (first|apply zk1|apply zk2|apply zk3));exact HO_248002.out) hb);replace HO_248003:=Aside0.mk (Kd.R_below (by (with_reducible repeat (first|apply zk1|apply zk2|apply zk3));exact HO_248003.out) hb);replace BK237:=Aside0.mk (blk_below (g:=gb237) (o:=.cells #[.bool false,.slice none 0 0,.slice none 0 0,.slice none 0 0] 27 (0,0)) (by (with_reducible repeat (first|apply zb1|apply zb2|apply zb3));exact BK237.out) hb);replace BK247:=Aside0.mk (blk_below (g:=gb247) (o:=.cells #[.bool false,.slice Ao95 x248001_2.length co95,.slice Ao96 x248002_2.length co96,.slice Ao97 x248003_2.length co97] 27 (0,0)) (by (with_reducible repeat (first|apply zb1|apply zb2|apply zb3));exact BK247.out) hb);replace HB:=Aside0.mk (below_step (by repeat (first|(with_reducible first|exact HB.out|apply zl1|apply zl2|apply zl3|refine below_set ?_ (IsS62.ge HI240.out)|refine below_set ?_ GE237.out|refine below_set ?_ GE247.out)|exact HB.out)) hb);replace HI240:=Aside0.mk (IsS62.below (by repeat (first|(with_reducible first|exact HI240.out|apply IsS62.alloc|apply IsS62.drewN|apply IsS62.drew|apply IsS62.set_0|apply IsS62.set_1|refine IsS62.far ?_ NB240_237.out _|refine IsS62.far ?_ NB240_247.out _)|exact HI240.out)) hb);(try clear hb)))
             go_meet
             case rel => exact ⟨_,((t287.toList != ([] : List UInt8))),(by first|(with_reducible rfl)|(simp;done)|(simp [*];done)|rfl|(simp only [not_isEmpty_bne])),(by first|exact H'|(rw [c58b0];exact H')),⟨by have:=HJ4.out;have:=HK2.out;first|omega|exact Nat.le_refl _⟩,⟨by (with_reducible repeat (first|apply zk1|apply zk2|apply zk3));exact HO_248001.out⟩,⟨by (with_reducible repeat (first|apply zk1|apply zk2|apply zk3));exact HO_248002.out⟩,⟨by (with_reducible repeat (first|apply zk1|apply zk2|apply zk3));exact HO_248003.out⟩,⟨by (with_reducible repeat (first|apply zb1|apply zb2|apply zb3));exact BK237.out⟩,⟨by (with_reducible repeat (first|apply zb1|apply zb2|apply zb3));(first|exact BK247.out|(rw [c58b0];exact BK247.out))⟩,⟨by repeat (first|(with_reducible first|exact HB.out|apply zl1|apply zl2|apply zl3|refine below_set ?_ (IsS62.ge HI240.out)|refine below_set ?_ GE237.out|refine below_set ?_ GE247.out)|exact HB.out)⟩⟩
           ·replace c89:=Bool.eq_false_iff.mpr c89
            subst c89
            have H1 : (node_Read.j2 k2 true false x248001_2 x248002_2 x248003_2) = some (r1,r2,r3,r4,r5):=by rw [if_neg (show ¬ (false = true) by decide)] at H;exact H
            clear H
            have H:=H1
            clear H1
            as_aux_lemma =>
             have H':=Aside0.mk H
             clear H
             go_wp2_with (first|(go_at_call 17;(with_reducible refine (pack_Reader_Err.calls g240 t276 t277 t283 t284 t285 w _ ?side1 ?side2 A85.out).mono ?_);(case side1 => repeat (first|(with_reducible first|exact HI240.out|apply IsS62.alloc|apply IsS62.drewN|apply IsS62.drew|apply IsS62.set_0|apply IsS62.set_1|refine IsS62.far ?_ NB240_237.out _|refine IsS62.far ?_ NB240_247.out _)|exact HI240.out));(case side2 => repeat (first|(with_reducible first|exact HB.out|apply zl1|apply zl2|apply zl3|refine below_set ?_ (IsS62.ge HI240.out)|refine below_set ?_ GE237.out|refine below_set ?_ GE247.out)|exact HB.out));rintro e w100 ⟨rfl,hi,hb,hk⟩;replace HO_248001:=Aside0.mk (Kd.R_mono (Kd.R_keep (IsS62.apart (show IsS62 w _ g240 t276 t277 from by repeat (first|(with_reducible first|exact HI240.out|apply IsS62.alloc|apply IsS62.drewN|apply IsS62.drew|apply IsS62.set_0|apply IsS62.set_1|refine IsS62.far ?_ NB240_237.out _|refine IsS62.far ?_ NB240_247.out _)|exact HI240.out)) (by (with_reducible repeat (first|apply zk1|apply zk2|apply zk3));exact HO_248001.out) (by decide)) hk (fun _ h => h.2)) (fun _ h => h.1));replace HO_248002:=Aside0.mk (Kd.R_mono (Kd.R_keep (IsS62.apart (show IsS62 w _ g240 t276 t277 from by repeat (first|(with_reducible first|exact HI240.out|apply IsS62.alloc|apply IsS62.drewN|apply IsS62.drew|apply IsS62.set_0|apply IsS62.set_1|refine IsS62.far ?_ NB240_237.out _|refine IsS62.far ?_ NB240_247.out _)|exact HI240.out)) (by (with_reducible repeat (first|apply zk1|apply zk2|apply zk3));exact HO_248002.out) (by decide)) hk (fun _ h => h.2)) (fun _ h => h.1));replace HO_248003:=Aside0.mk (Kd.R_mono (Kd.R_keep (IsS62.apart (show IsS62 w _ g240 t276 t277 from by repeat (first|(with_reducible first|exact HI240.out|apply IsS62.alloc|apply IsS62.drewN|apply IsS62.drew|apply IsS62.set_0|apply IsS62.set_1|refine IsS62.far ?_ NB240_237.out _|refine IsS62.far ?_ NB240_247.out _)|exact HI240.out)) (by (with_reducible repeat (first|apply zk1|apply zk2|apply zk3));exact HO_248003.out) (by decide)) hk (fun _ h => h.2)) (fun _ h => h.1));replace BK237:=Aside0.mk (KeepBut.blk hk (g':=gb237) (o:=.cells #[.bool false,.slice none 0 0,.slice none 0 0,.slice none 0 0] 27 (0,0)) (by (with_reducible repeat (first|apply zb1|apply zb2|apply zb3));exact BK237.out) NB237_240.out (by simp));replace BK247:=Aside0.mk (KeepBut.blk hk (g':=gb247) (o:=.cells #[.bool false,u248001,u248002,u248003] 27 (0,0)) (by (with_reducible repeat (first|apply zb1|apply zb2|apply zb3));exact BK247.out) NB247_240.out (by simp));replace HB:=Aside0.mk (hb);replace HI240:=Aside0.mk (hi);(try clear hb);(try clear hk);(try clear hi);have hnb101:=NB247_237.out;have hnc101:=NB237_247.out;have hnb102:=NB247_240.out;have hnc102:=NB240_247.out;have hcz103_0 : w100.cell? ⟨gb247,0,none⟩ = some (.bool false):=(blk_cell BK247.out 0).trans rfl;have hcz103_1 : w100.cell? ⟨gb247,1,none⟩ = some (u248001):=(blk_cell BK247.out 1).trans rfl;have hcz103_2 : w100.cell? ⟨gb247,2,none⟩ = some (u248002):=(blk_cell BK247.out 2).trans rfl;have hcz103_3 : w100.cell? ⟨gb247,3,none⟩ = some (u248003):=(blk_cell BK247.out 3).trans rfl;have hfz103_0:=blk_frozen BK247.out 0;have hfz103_1:=blk_frozen BK247.out 1;have hfz103_2:=blk_frozen BK247.out 2;have hfz103_3:=blk_frozen BK247.out 3;obtain ⟨Ao104,co104,eo104⟩:=Kd.R_slice HO_248001.out;subst eo104;obtain ⟨Ao105,co105,eo105⟩:=Kd.R_slice HO_248002.out;subst eo105;obtain ⟨Ao106,co106,eo106⟩:=Kd.R_slice HO_248003.out;subst eo106)|(go_at_call 18;(with_reducible refine (node_right.calls k2 false _ _ x248001_2 _ _ x248002_2 _ _ x248003_2 false _ ?side1 ?side2 ?side3 ?side4 ?side5 ?side6 A88.out).mono ?_);(case side1 => repeat (first|exact (Kd.R_reads' HO_248001.out).2.2|(with_reducible refine Kd.C_alloc ?_ _)|(with_reducible refine Kd.C_drewN ?_ _)|(with_reducible refine Kd.C_drew ?_)));(case side2 => exact (Kd.R_reads' HO_248001.out).2.1);(case side3 => repeat (first|exact (Kd.R_reads' HO_248002.out).2.2|(with_reducible refine Kd.C_alloc ?_ _)|(with_reducible refine Kd.C_drewN ?_ _)|(with_reducible refine Kd.C_drew ?_)));(case side4 => exact (Kd.R_reads' HO_248002.out).2.1);(case side5 => repeat (first|exact (Kd.R_reads' HO_248003.out).2.2|(with_reducible refine Kd.C_alloc ?_ _)|(with_reducible refine Kd.C_drewN ?_ _)|(with_reducible refine Kd.C_drew ?_)));(case side6 => exact (Kd.R_reads' HO_248003.out).2.1);rintro e w107 ⟨rfl,hb⟩;replace HO_248001:=Aside0.mk (Kd.R_below (by (with_reducible repeat (first|apply zk1|apply zk2|apply zk3));exact HO_248001.out) hb);replace HO_248002:=Aside0.mk (Kd.R_below (by (with_reducible repeat (first|apply zk1|apply zk2|apply zk3));exact HO_248002.out) hb);replace HO_248003:=Aside0.mk (Kd.R_below (by (with_reducible repeat (first|apply zk1|apply zk2|apply zk3));exact HO_248003.out) hb);replace BK237:=Aside0.mk (blk_below (g:=gb237) (o:=.cells #[.bool false,.slice none 0 0,.slice none 0 0,.slice none 0 0] 27 (0,0)) (by (with_reducible repeat (first|apply zb1|apply zb2|apply zb3));exact BK237.out) hb);replace BK247:=Aside0.mk (blk_below (g:=gb247) (o:=.cells #[.bool false,.slice Ao104 x248001_2.length co104,.slice Ao105 x248002_2.length co105,.slice Ao106 x248003_2.length co106] 27 (0,0)) (by (with_reducible repeat (first|apply zb1|apply zb2|apply zb3));exact BK247.out) hb);replace HB:=Aside0.mk (below_step (by repeat (first|(with_reducible first|exact HB.out|apply zl1|apply zl2|apply zl3|refine below_set ?_ (IsS62.ge HI240.out)|refine below_set ?_ GE237.out|refine below_set ?_ GE247.out)|exact HB.out)) hb);replace HI240:=Aside0.mk (IsS62.below (by repeat (first|(with_reducible first|exact HI240.out|apply IsS62.alloc|apply IsS62.drewN|apply IsS62.drew|apply IsS62.set_0|apply IsS62.set_1|refine IsS62.far ?_ NB240_237.out _|refine IsS62.far ?_ NB240_247.out _)|exact HI240.out)) hb);(try clear hb)))
             go_meet
             case rel => exact ⟨_,(true),(by first|(with_reducible rfl)|(simp;done)|(simp [*];done)|rfl|(simp only [not_isEmpty_bne])),(by first|exact H'|(rw [c58b0];exact H')),⟨by have:=HJ4.out;have:=HK2.out;first|omega|exact Nat.le_refl _⟩,⟨by (with_reducible repeat (first|apply zk1|apply zk2|apply zk3));exact HO_248001.out⟩,⟨by (with_reducible repeat (first|apply zk1|apply zk2|apply zk3));exact HO_248002.out⟩,⟨by (with_reducible repeat (first|apply zk1|apply zk2|apply zk3));exact HO_248003.out⟩,⟨by (with_reducible repeat (first|apply zb1|apply zb2|apply zb3));exact BK237.out⟩,⟨by (with_reducible repeat (first|apply zb1|apply zb2|apply zb3));(first|exact BK247.out|(rw [c58b0];exact BK247.out))⟩,⟨by repeat (first|(with_reducible first|exact HB.out|apply zl1|apply zl2|apply zl3|refine below_set ?_ (IsS62.ge HI240.out)|refine below_set ?_ GE237.out|refine below_set ?_ GE247.out)|exact HB.out)⟩⟩
          ·rw [if_neg c87] at H
           have c87b0 : ((a0.size : Int) == 256) = false:=beq_eq_false_iff_ne.mpr c87
           have c87b1 : ((a0.size : Int) != 256) = true:=bne_iff_ne.mpr c87
           as_aux_lemma =>
            have H':=Aside0.mk H
            clear H
            go_wp2_with (first|(go_at_call 17;(with_reducible refine (pack_Reader_Err.calls g240 t276 t277 t283 t284 t285 w _ ?side1 ?side2 A85.out).mono ?_);(case side1 => repeat (first|(with_reducible first|exact HI240.out|apply IsS62.alloc|apply IsS62.drewN|apply IsS62.drew|apply IsS62.set_0|apply IsS62.set_1|refine IsS62.far ?_ NB240_237.out _|refine IsS62.far ?_ NB240_247.out _)|exact HI240.out));(case side2 => repeat (first|(with_reducible first|exact HB.out|apply zl1|apply zl2|apply zl3|refine below_set ?_ (IsS62.ge HI240.out)|refine below_set ?_ GE237.out|refine below_set ?_ GE247.out)|exact HB.out));rintro e w108 ⟨rfl,hi,hb,hk⟩;replace HO_248001:=Aside0.mk (Kd.R_mono (Kd.R_keep (IsS62.apart (show IsS62 w _ g240 t276 t277 from by repeat (first|(with_reducible first|exact HI240.out|apply IsS62.alloc|apply IsS62.drewN|apply IsS62.drew|apply IsS62.set_0|apply IsS62.set_1|refine IsS62.far ?_ NB240_237.out _|refine IsS62.far ?_ NB240_247.out _)|exact HI240.out)) (by (with_reducible repeat (first|apply zk1|apply zk2|apply zk3));exact HO_248001.out) (by decide)) hk (fun _ h => h.2)) (fun _ h => h.1));replace HO_248002:=Aside0.mk (Kd.R_mono (Kd.R_keep (IsS62.apart (show IsS62 w _ g240 t276 t277 from by repeat (first|(with_reducible first|exact HI240.out|apply IsS62.alloc|apply IsS62.drewN|apply IsS62.drew|apply IsS62.set_0|apply IsS62.set_1|refine IsS62.far ?_ NB240_237.out _|refine IsS62.far ?_ NB240_247.out _)|exact HI240.out)) (by (with_reducible repeat (first|apply zk1|apply zk2|apply zk3));exact HO_248002.out) (by decide)) hk (fun _ h => h.2)) (fun _ h => h.1));replace HO_248003:=Aside0.mk (Kd.R_mono (Kd.R_keep (IsS62.apart (show IsS62 w _ g240 t276 t277 from by repeat (first|(with_reducible first|exact HI240.out|apply IsS62.alloc|apply IsS62.drewN|apply IsS62.drew|apply IsS62.set_0|apply IsS62.set_1|refine IsS62.far ?_ NB240_237.out _|refine IsS62.far ?_ NB240_247.out _)|exact HI240.out)) (by (with_reducible repeat (first|apply zk1|apply zk2|apply zk3));exact HO_248003.out) (by decide)) hk (fun _ h => h.2)) (fun _ h => h.1));replace BK237:=Aside0.mk (KeepBut.blk hk (g':=gb237) (o:=.cells #[.bool false,.slice none 0 0,.slice none 0 0,.slice none 0 0] 27 (0,0)) (by (with_reducible repeat (first|apply zb1|apply zb2|apply zb3));exact BK237.out) NB237_240.out (by simp));replace BK247:=Aside0.mk (KeepBut.blk hk (g':=gb247) (o:=.cells #[.bool false,u248001,u248002,u248003] 27 (0,0)) (by (with_reducible repeat (first|apply zb1|apply zb2|apply zb3));exact BK247.out) NB247_240.out (by simp));replace HB:=Aside0.mk (hb);replace HI240:=Aside0.mk (hi);(try clear hb);(try clear hk);(try clear hi)))
            go_meet
            case rel => exact ⟨_,(true),(by first|(with_reducible rfl)|(simp;done)|(simp [*];done)|rfl|(simp only [not_isEmpty_bne])),(by first|exact H'|(rw [c58b0];exact H')),⟨by have:=HJ4.out;have:=HK2.out;first|omega|exact Nat.le_refl _⟩,⟨by (with_reducible repeat (first|apply zk1|apply zk2|apply zk3));exact HO_248001.out⟩,⟨by (with_reducible repeat (first|apply zk1|apply zk2|apply zk3));exact HO_248002.out⟩,⟨by (with_reducible repeat (first|apply zk1|apply zk2|apply zk3));exact HO_248003.out⟩,⟨by (with_reducible repeat (first|apply zb1|apply zb2|apply zb3));exact BK237.out⟩,⟨by (with_reducible repeat (first|apply zb1|apply zb2|apply zb3));(first|exact BK247.out|(rw [c58b0];exact BK247.out))⟩,⟨by repeat (first|(with_reducible first|exact HB.out|apply zl1|apply zl2|apply zl3|refine below_set ?_ (IsS62.ge HI240.out)|refine below_set ?_ GE237.out|refine below_set ?_ GE247.out)|exact HB.out)⟩⟩
         ·rw [if_neg c86] at H
          have c86b0 : (t283 == 0) = false:=beq_eq_false_iff_ne.mpr c86
          have c86b1 : (t283 != 0) = true:=bne_iff_ne.mpr c86
          as_aux_lemma =>
           have H':=Aside0.mk H
           clear H
           go_wp2_with (first|(go_at_call 17;(with_reducible refine (pack_Reader_Err.calls g240 t276 t277 t283 t284 t285 w _ ?side1 ?side2 A85.out).mono ?_);(case side1 => repeat (first|(with_reducible first|exact HI240.out|apply IsS62.alloc|apply IsS62.drewN|apply IsS62.drew|apply IsS62.set_0|apply IsS62.set_1|refine IsS62.far ?_ NB240_237.out _|refine IsS62.far ?_ NB240_247.out _)|exact HI240.out));(case side2 => repeat (first|(with_reducible first|exact HB.out|apply zl1|apply zl2|apply zl3|refine below_set ?_ (IsS62.ge HI240.out)|refine below_set ?_ GE237.out|refine below_set ?_ GE247.out)|exact HB.out));rintro e w109 ⟨rfl,hi,hb,hk⟩;replace HO_248001:=Aside0.mk (Kd.R_mono (Kd.R_keep (IsS62.apart (show IsS62 w _ g240 t276 t277 from by repeat (first|(with_reducible first|exact HI240.out|apply IsS62.alloc|apply IsS62.drewN|apply IsS62.drew|apply IsS62.set_0|apply IsS62.set_1|refine IsS62.far ?_ NB240_237.out _|refine IsS62.far ?_ NB240_247.out _)|exact HI240.out)) (by (with_reducible repeat (first|apply zk1|apply zk2|apply zk3));exact HO_248001.out) (by decide)) hk (fun _ h => h.2)) (fun _ h => h.1));replace HO_248002:=Aside0.mk (Kd.R_mono (Kd.R_keep (IsS62.apart (show IsS62 w _ g240 t276 t277 from by repeat (first|(with_reducible first|exact HI240.out|apply IsS62.alloc|apply IsS62.drewN|apply IsS62.drew|apply IsS62.set_0|apply IsS62.set_1|refine IsS62.far ?_ NB240_237.out _|refine IsS62.far ?_ NB240_247.out _)|exact HI240.out)) (by (with_reducible repeat (first|apply zk1|apply zk2|apply zk3));exact HO_248002.out) (by decide)) hk (fun _ h => h.2)) (fun _ h => h.1));replace HO_248003:=Aside0.mk (Kd.R_mono (Kd.R_keep (IsS62.apart (show IsS62 w _ g240 t276 t277 from by repeat (first|(with_reducible first|exact HI240.out|apply IsS62.alloc|apply IsS62.drewN|apply IsS62.drew|apply IsS62.set_0|apply IsS62.set_1|refine IsS62.far ?_ NB240_237.out _|refine IsS62.far ?_ NB240_247.out _)|exact HI240.out)) (by (with_reducible repeat (first|apply zk1|apply zk2|apply zk3));exact HO_248003.out) (by decide)) hk (fun _ h => h.2)) (fun _ h => h.1));replace BK237:=Aside0.mk (KeepBut.blk hk (g':=gb237) (o:=.cells #[.bool false,.slice none 0 0,.slice none 0 0,.slice none 0 0] 27 (0,0)) (by (with_reducible repeat (first|apply zb1|apply zb2|apply zb3));exact BK237.out) NB237_240.out (by simp));replace BK247:=Aside0.mk (KeepBut.blk hk (g':=gb247) (o:=.cells #[.bool false,u248001,u248002,u248003] 27 (0,0)) (by (with_reducible repeat (first|apply zb1|apply zb2|apply zb3));exact BK247.out) NB247_240.out (by simp));replace HB:=Aside0.mk (hb);replace HI240:=Aside0.mk (hi);(try clear hb);(try clear hk);(try clear hi)))
           go_meet
           case rel => exact ⟨_,(true),(by first|(with_reducible rfl)|(simp;done)|(simp [*];done)|rfl|(simp only [not_isEmpty_bne])),(by first|exact H'|(rw [c58b0];exact H')),⟨by have:=HJ4.out;have:=HK2.out;first|omega|exact Nat.le_refl _⟩,⟨by (with_reducible repeat (first|apply zk1|apply zk2|apply zk3));exact HO_248001.out⟩,⟨by (with_reducible repeat (first|apply zk1|apply zk2|apply zk3));exact HO_248002.out⟩,⟨by (with_reducible repeat (first|apply zk1|apply zk2|apply zk3));exact HO_248003.out⟩,⟨by (with_reducible repeat (first|apply zb1|apply zb2|apply zb3));exact BK237.out⟩,⟨by (with_reducible repeat (first|apply zb1|apply zb2|apply zb3));(first|exact BK247.out|(rw [c58b0];exact BK247.out))⟩,⟨by repeat (first|(with_reducible first|exact HB.out|apply zl1|apply zl2|apply zl3|refine below_set ?_ (IsS62.ge HI240.out)|refine below_set ?_ GE237.out|refine below_set ?_ GE247.out)|exact HB.out)⟩⟩
        ·rw [if_neg c84] at H
         have c84b0 : (t241 == 2) = false:=beq_eq_false_iff_ne.mpr c84
         have c84b1 : (t241 != 2) = true:=bne_iff_ne.mpr c84
         as_aux_lemma =>
          have H':=Aside0.mk H
          clear H
          go_wp2
          go_meet
          case rel => exact ⟨_,(true),(by first|(with_reducible rfl)|(simp;done)|(simp [*];done)|rfl|(simp only [not_isEmpty_bne])),(by first|exact H'|(rw [c58b0];exact H')),⟨by have:=HJ4.out;have:=HK2.out;first|omega|exact Nat.le_refl _⟩,⟨by (with_reducible repeat (first|apply zk1|apply zk2|apply zk3));exact HO_248001.out⟩,⟨by (with_reducible repeat (first|apply zk1|apply zk2|apply zk3));exact HO_248002.out⟩,⟨by (with_reducible repeat (first|apply zk1|apply zk2|apply zk3));exact HO_248003.out⟩,⟨by (with_reducible repeat (first|apply zb1|apply zb2|apply zb3));exact BK237.out⟩,⟨by (with_reducible repeat (first|apply zb1|apply zb2|apply zb3));(first|exact BK247.out|(rw [c58b0];exact BK247.out))⟩,⟨by repeat (first|(with_reducible first|exact HB.out|apply zl1|apply zl2|apply zl3|refine below_set ?_ (IsS62.ge HI240.out)|refine below_set ?_ GE237.out|refine below_set ?_ GE247.out)|exact HB.out)⟩⟩
      case rest =>
       clear HC55
       try clear c1
       try clear c2
       try clear p2
       try clear c3
       try clear c4
       try clear c5
       try clear c6
       try clear p6
       try clear c7
       try clear c8
       try clear c9
       try clear c10
       try clear c13
       try clear c14
       try clear c15
       try clear c16
       try clear c23
       try clear c23b0
       try clear c25
       try clear c25b0
       try clear c25b1
       try clear c25b2
       try clear c27
       try clear c37
       try clear c39
       try clear c41
       try clear c42
       try clear c58
       try clear c58b0
       try clear c58b1
       try clear hcz103_0 hcz103_1 hcz103_2 hcz103_3
       try clear c60
       try clear c60b0
       try clear c60b1
       try clear c61
       try clear c61b0
       try clear c61b1
       try clear c63
       try clear p64
       try clear c66
       try clear c67
       try clear c75
       try clear c76
       try clear c84
       try clear c84b0
       try clear c84b1
       try clear c86
       try clear c86b0
       try clear c86b1
       try clear c87
       try clear c87b0
       try clear c87b1
       try clear c89
       try clear c92
       try clear c93
       try clear c101
       try clear c102
       try clear hfz103_0 hfz103_1 hfz103_2 hfz103_3 hfz43_0 hfz43_1 hfz43_2 hfz43_3 hfz46_0 hfz46_1
       try clear hcz43_0 hcz43_1 hcz43_2 hcz43_3 hcz46_0 hcz46_1 hcz46_2 hcz46_3 hcz68_0 hcz68_1 hcz68_2 hcz68_3 hcz77_0 hcz77_1 hcz77_2 hcz77_3 hcz94_0 hcz94_1 hcz94_2 hcz94_3
       try clear hfz46_2 hfz46_3 hfz68_0 hfz68_1 hfz68_2 hfz68_3 hfz77_0 hfz77_1 hfz77_2 hfz77_3 hfz94_0 hfz94_1 hfz94_2 hfz94_3
       obtain ⟨kq,x89_54,rfl,HA,HJ54,HO_248001,HO_248002,HO_248003,BK237,BK247,HB⟩:=hcut
       cases kq with
       | zero => exact absurd HA.out (by simp [node_Read.j2])
       | succ kj54 =>
        have H:=HA.out
        clear HA
        simp only [node_Read.j2] at H
        by_cases c110 : x89_54 = true
        ·subst c110
         have H1 : (some (false,([] : List (S44)),([] : List ByteArray),([] : List Int),10)) = some (r1,r2,r3,r4,r5):=by rw [if_pos rfl] at H;exact H
         clear H
         have H:=H1
         clear H1
         as_aux_lemma =>
          simp only [Option.some.injEq,Prod.mk.injEq] at H
          obtain ⟨rfl,rfl,rfl,rfl,rfl⟩:=H
          have hnb111:=NB237_247.out
          have hnc111:=NB247_237.out
          have hcz112_0 : wc.cell? ⟨gb237,0,none⟩ = some (.bool false):=(blk_cell BK237.out 0).trans rfl
          have hcz112_1 : wc.cell? ⟨gb237,1,none⟩ = some (.slice none 0 0):=(blk_cell BK237.out 1).trans rfl
          have hcz112_2 : wc.cell? ⟨gb237,2,none⟩ = some (.slice none 0 0):=(blk_cell BK237.out 2).trans rfl
          have hcz112_3 : wc.cell? ⟨gb237,3,none⟩ = some (.slice none 0 0):=(blk_cell BK237.out 3).trans rfl
          have hfz112_0:=blk_frozen BK237.out 0
          have hfz112_1:=blk_frozen BK237.out 1
          have hfz112_2:=blk_frozen BK237.out 2
          have hfz112_3:=blk_frozen BK237.out 3
          go_wp2
          refine bodyPost_ret (results_ct rfl _ _ gb237 27 #[.bool false,.slice none 0 0,.slice none 0 0,.slice none 0 0] (0,0) _ rfl (by (with_reducible repeat (first|apply zb1|apply zb2|apply zb3));refine blk_put (cs:=#[.bool false,.slice none 0 0,.slice none 0 0,.slice none 0 0]) ?_ 3 _ rfl;(with_reducible repeat (first|apply zb1|apply zb2|apply zb3));refine blk_put (cs:=#[.bool false,.slice none 0 0,.slice none 0 0,.slice none 0 0]) ?_ 2 _ rfl;(with_reducible repeat (first|apply zb1|apply zb2|apply zb3));refine blk_put (cs:=#[.bool false,.slice none 0 0,.slice none 0 0,.slice none 0 0]) ?_ 1 _ rfl;(with_reducible repeat (first|apply zb1|apply zb2|apply zb3));refine blk_put (cs:=#[.bool false,.slice none 0 0,.slice none 0 0,.slice none 0 0]) ?_ 0 _ rfl;(with_reducible repeat (first|apply zb1|apply zb2|apply zb3));exact BK237.out) Tryd.underlying27 rfl (by kernel_rfl)) rfl ?_
          exact ⟨_,_,_,by first|(with_reducible rfl)|(simp only [isEmpty_bne,Bool.not_not] <;> rfl)|rfl|(simp [*,errW_none,errW_some] <;> rfl),by first|exact Kd.R_nil _ _ _ _ _|exact Kd.N_nil _ _ _ _ _|exact Kd.V_nil _ _ _ _ _|exact Kd.Q_nil _ _ _ _ _|exact Kd.S_nil _ _ _ _ _,by first|exact Kd.R_nil _ _ _ _ _|exact Kd.N_nil _ _ _ _ _|exact Kd.V_nil _ _ _ _ _|exact Kd.Q_nil _ _ _ _ _|exact Kd.S_nil _ _ _ _ _,by first|exact Kd.R_nil _ _ _ _ _|exact Kd.N_nil _ _ _ _ _|exact Kd.V_nil _ _ _ _ _|exact Kd.Q_nil _ _ _ _ _|exact Kd.S_nil _ _ _ _ _,by repeat (first|(with_reducible first|exact HB.out|apply zl1|apply zl2|apply zl3|refine below_set ?_ GE237.out|refine below_set ?_ GE247.out)|exact HB.out)⟩
        ·replace c110:=Bool.eq_false_iff.mpr c110
         subst c110
         have H1 : (some ((t241 == 1),x248001_2,x248002_2,x248003_2,0)) = some (r1,r2,r3,r4,r5):=by rw [if_neg (show ¬ (false = true) by decide)] at H;exact H
         clear H
         have H:=H1
         clear H1
         as_aux_lemma =>
          simp only [Option.some.injEq,Prod.mk.injEq] at H
          obtain ⟨rfl,rfl,rfl,rfl,rfl⟩:=H
          have hnb113:=NB247_237.out
          have hnc113:=NB237_247.out
          have hcz114_0 : wc.cell? ⟨gb247,0,none⟩ = some (.bool (t241 == 1)):=(blk_cell BK247.out 0).trans rfl
          have hcz114_1 : wc.cell? ⟨gb247,1,none⟩ = some (u248001):=(blk_cell BK247.out 1).trans rfl
          have hcz114_2 : wc.cell? ⟨gb247,2,none⟩ = some (u248002):=(blk_cell BK247.out 2).trans rfl
          have hcz114_3 : wc.cell? ⟨gb247,3,none⟩ = some (u248003):=(blk_cell BK247.out 3).trans rfl
          have hfz114_0:=blk_frozen BK247.out 0
          have hfz114_1:=blk_frozen BK247.out 1
          have hfz114_2:=blk_frozen BK247.out 2
          have hfz114_3:=blk_frozen BK247.out 3
          have hcz115_0 : wc.cell? ⟨gb237,0,none⟩ = some (.bool false):=(blk_cell BK237.out 0).trans rfl
          have hcz115_1 : wc.cell? ⟨gb237,1,none⟩ = some (.slice none 0 0):=(blk_cell BK237.out 1).trans rfl
          have hcz115_2 : wc.cell? ⟨gb237,2,none⟩ = some (.slice none 0 0):=(blk_cell BK237.out 2).trans rfl
          have hcz115_3 : wc.cell? ⟨gb237,3,none⟩ = some (.slice none 0 0):=(blk_cell BK237.out 3).trans rfl
          have hfz115_0:=blk_frozen BK237.out 0
          have hfz115_1:=blk_frozen BK237.out 1
          have hfz115_2:=blk_frozen BK237.out 2
          have hfz115_3:=blk_frozen BK237.out 3
          obtain ⟨Ao116,co116,eo116⟩:=Kd.R_slice HO_248001.out
          subst eo116
          obtain ⟨Ao117,co117,eo117⟩:=Kd.R_slice HO_248002.out
          subst eo117
          obtain ⟨Ao118,co118,eo118⟩:=Kd.R_slice HO_248003.out
          subst eo118
          go_wp2
          refine bodyPost_ret (results_ct rfl _ _ gb237 27 #[.bool (t241 == 1),.slice Ao116 x248001_2.length co116,.slice Ao117 x248002_2.length co117,.slice Ao118 x248003_2.length co118] (0,0) _ rfl (by (with_reducible repeat (first|apply zb1|apply zb2|apply zb3));refine blk_put (cs:=#[.bool (t241 == 1),.slice Ao116 x248001_2.length co116,.slice Ao117 x248002_2.length co117,.slice none 0 0]) ?_ 3 _ rfl;(with_reducible repeat (first|apply zb1|apply zb2|apply zb3));refine blk_put (cs:=#[.bool (t241 == 1),.slice Ao116 x248001_2.length co116,.slice none 0 0,.slice none 0 0]) ?_ 2 _ rfl;(with_reducible repeat (first|apply zb1|apply zb2|apply zb3));refine blk_put (cs:=#[.bool (t241 == 1),.slice none 0 0,.slice none 0 0,.slice none 0 0]) ?_ 1 _ rfl;(with_reducible repeat (first|apply zb1|apply zb2|apply zb3));refine blk_put (cs:=#[.bool false,.slice none 0 0,.slice none 0 0,.slice none 0 0]) ?_ 0 _ rfl;(with_reducible repeat (first|apply zb1|apply zb2|apply zb3));exact BK237.out) Tryd.underlying27 rfl (by kernel_rfl)) rfl ?_
          exact ⟨_,_,_,by first|(with_reducible rfl)|(simp only [isEmpty_bne,Bool.not_not] <;> rfl)|rfl|(simp [*,errW_none,errW_some] <;> rfl),by (with_reducible repeat (first|apply zk1|apply zk2|apply zk3));exact Kd.R_mono (Kd.R_far (p:=⟨gb237,3,none⟩) (Kd.R_far (p:=⟨gb237,2,none⟩) (Kd.R_far (p:=⟨gb237,1,none⟩) (Kd.R_far (p:=⟨gb237,0,none⟩) (Kd.R_types HO_248001.out BK237.out (by decide)) (fun _ hk => hk.2) (.bool (t241 == 1))) (fun _ hk => hk.2) (.slice Ao116 x248001_2.length co116)) (fun _ hk => hk.2) (.slice Ao117 x248002_2.length co117)) (fun _ hk => hk.2) (.slice Ao118 x248003_2.length co118)) (fun _ hk => trivial),by (with_reducible repeat (first|apply zk1|apply zk2|apply zk3));exact Kd.R_mono (Kd.R_far (p:=⟨gb237,3,none⟩) (Kd.R_far (p:=⟨gb237,2,none⟩) (Kd.R_far (p:=⟨gb237,1,none⟩) (Kd.R_far (p:=⟨gb237,0,none⟩) (Kd.R_types HO_248002.out BK237.out (by decide)) (fun _ hk => hk.2) (.bool (t241 == 1))) (fun _ hk => hk.2) (.slice Ao116 x248001_2.length co116)) (fun _ hk => hk.2) (.slice Ao117 x248002_2.length co117)) (fun _ hk => hk.2) (.slice Ao118 x248003_2.length co118)) (fun _ hk => trivial),by (with_reducible repeat (first|apply zk1|apply zk2|apply zk3));exact Kd.R_mono (Kd.R_far (p:=⟨gb237,3,none⟩) (Kd.R_far (p:=⟨gb237,2,none⟩) (Kd.R_far (p:=⟨gb237,1,none⟩) (Kd.R_far (p:=⟨gb237,0,none⟩) (Kd.R_types HO_248003.out BK237.out (by decide)) (fun _ hk => hk.2) (.bool (t241 == 1))) (fun _ hk => hk.2) (.slice Ao116 x248001_2.length co116)) (fun _ hk => hk.2) (.slice Ao117 x248002_2.length co117)) (fun _ hk => hk.2) (.slice Ao118 x248003_2.length co118)) (fun _ hk => trivial),by repeat (first|(with_reducible first|exact HB.out|apply zl1|apply zl2|apply zl3|refine below_set ?_ GE237.out|refine below_set ?_ GE247.out)|exact HB.out)⟩

end Go.Proofs.YtokjbncjapndgaaDoor.PAll
