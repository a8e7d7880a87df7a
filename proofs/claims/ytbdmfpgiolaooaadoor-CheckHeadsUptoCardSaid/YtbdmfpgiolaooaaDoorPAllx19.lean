/- Printed walks of the functions that the laws reach: each function, what it computes, and that it does. No conditions. -/
import Derived.Test.YtbdmfpgiolaooaaDoorPAllx0
import Derived.Test.YtbdmfpgiolaooaaDoorPAllx13
import Derived.Test.YtbdmfpgiolaooaaDoorPAllx17
import Derived.Test.YtbdmfpgiolaooaaDoorPAllx18
namespace Go.Proofs.YtbdmfpgiolaooaaDoor.PAll
open Go.RowKit Go.Proofs.YtbdmfpgiolaooaaDoor.XW Go.Proofs.YtbdmfpgiolaooaaDoor.XLib Go.Proofs.YtbdmfpgiolaooaaDoorW.PrintWords Go.Proofs.YtbdmfpgiolaooaaDoorW.PrintLast Go.Proofs.YtbdmfpgiolaooaaDoorW.PrintMore
attribute [local go_sem] max2_int min2_int max_two min_two max_three min_three max_four min_four   -- for this text's walks alone
set_option linter.unusedVariables false
set_option linter.unusedSimpArgs false

/-! ### check_Check: function 9 -/
set_option maxHeartbeats 8000000 in
set_option maxRecDepth 100000 in
theorem check_Check.clo (F : Nat) (eg : ∀ args w, (callFunc F args).run Tryd.prog w = .ok (.enter F args) w) (x : S32) (n : Nat) (b : Bool) (gr gl : Nat) (A : Option Addr) (c : Nat) (e0 : Int) (w : World)
    (hgr : w.heap[gr]? = some (.cells #[.int .i64 e0, .func (.func F) #[] #[]] 44 (0, 0))) (hgl : w.heap[gl]? = some (.cells #[.slice A n c] 22 (0, 0)))
    (hF : ∀ W, Calls Tryd.prog F #[.agg #[.int .i64 x.f0, .int .i64 x.f1, .int .i64 x.f2, .int .i64 x.f3, .int .i64 x.f4.f0, .int .i64 x.f4.f1, .string x.f4.f2], .int .i64 n] W fun e w' => e = .returned (.bool b) ∧ Below W.heap.size W w') :
    Calls Tryd.prog 23 #[.agg #[.int .i64 x.f0, .int .i64 x.f1, .int .i64 x.f2, .int .i64 x.f3, .int .i64 x.f4.f0, .int .i64 x.f4.f1, .string x.f4.f2], .pointer (some ⟨gr, 0, none⟩), .pointer (some ⟨gl, 0, none⟩)] w fun e w' => e = .returned (.bool b) ∧ Below w.heap.size w w' := by
  have HB := Aside0.mk (Below.refl w.heap.size w)
  have BR := Aside0.mk hgr
  have BL := Aside0.mk hgl
  have HF := Aside0.mk hF
  clear hgr hgl hF
  have huI := Tryd.underlying32
  have huR := Tryd.underlying44
  go_enter Tryd.func23, Tryd.ntmps23
  go_wp2_with (first | ((with_reducible refine gate_dst (N := 3) rfl ?_); refine box_event ?hg (N := 3) ?hd (cs := #[.int .i64 x.f0, .int .i64 x.f1, .int .i64 x.f2, .int .i64 x.f3, .int .i64 x.f4.f0, .int .i64 x.f4.f1, .string x.f4.f2]) (t := 32) ?hr ?_; (case hd => rfl); (case hg => rfl); (case hr => first | (go_simp; done) | (go_simp; rfl)); intro gb hg w4 hbox hb; have n0_ := Aside0.mk (below_step HB.out hb); have n1_ := Aside0.mk hbox; have n2_ := Aside0.mk (blk_below BR.out hb); have n3_ := Aside0.mk (blk_below BL.out hb); clear HB BR BL; have HB := n0_; have BK := n1_; have BR := n2_; have BL := n3_; clear n0_ n1_ n2_ n3_; clear hb hbox hg; have z0 : w4.cell? ⟨gb, 0, none⟩ = some (.int .i64 x.f0) := (blk_cell BK.out 0).trans rfl; have z1 : w4.cell? ⟨gb, 1, none⟩ = some (.int .i64 x.f1) := (blk_cell BK.out 1).trans rfl; have z2 : w4.cell? ⟨gb, 2, none⟩ = some (.int .i64 x.f2) := (blk_cell BK.out 2).trans rfl; have z3 : w4.cell? ⟨gb, 3, none⟩ = some (.int .i64 x.f3) := (blk_cell BK.out 3).trans rfl; have z4 : w4.cell? ⟨gb, 4, none⟩ = some (.int .i64 x.f4.f0) := (blk_cell BK.out 4).trans rfl; have z5 : w4.cell? ⟨gb, 5, none⟩ = some (.int .i64 x.f4.f1) := (blk_cell BK.out 5).trans rfl; have z6 : w4.cell? ⟨gb, 6, none⟩ = some (.string x.f4.f2) := (blk_cell BK.out 6).trans rfl; have y1 : w4.cell? ⟨gr, 1, none⟩ = some (.func (.func F) #[] #[]) := (blk_cell BR.out 1).trans rfl; have y0 : w4.cell? ⟨gl, 0, none⟩ = some (.slice A n c) := (blk_cell BL.out 0).trans rfl) | (go_at_fn F; refine (HF.out _).mono ?_; rintro e w5 ⟨rfl, hb⟩; have n0_ := Aside0.mk (below_step HB.out hb); clear HB; have HB := n0_; clear n0_ hb))
  go_ret
  exact ⟨rfl, HB.out⟩

def check_Check.ix (g : S32 → Option Bool) : List S32 → Int → Option Int
  | [], _ => some (-1)
  | x :: l, i => (g x).bind fun b => if b = true then some i else check_Check.ix g l (i + 1)
theorem check_Check.rd (l : List S32) (i : Nat) (h : i < l.length) : rd_T32 l (i : Int) = l[i] := by
  unfold rd_T32; rw [Int.toNat_natCast, List.getD_eq_getElem?_getD, List.getElem?_eq_getElem h]; rfl
set_option maxHeartbeats 8000000 in
set_option maxRecDepth 100000 in
theorem check_Check.idx (g : S32 → Option Bool) (eg : ∀ args w, (callFunc 23 args).run Tryd.prog w = .ok (.enter 23 args) w) (gr gl : Nat) (A0 : Option Addr) (c0 : Nat) (l0 : List S32) (r : Int) (w : World) (hr0 : Kd.C k32 w A0 l0.length l0) (hlen : l0.length ≤ 64)
    (hp : ∀ x b W, g x = some b → Below w.heap.size w W → Calls Tryd.prog 23 #[.agg #[.int .i64 x.f0, .int .i64 x.f1, .int .i64 x.f2, .int .i64 x.f3, .int .i64 x.f4.f0, .int .i64 x.f4.f1, .string x.f4.f2], .pointer (some ⟨gr, 0, none⟩), .pointer (some ⟨gl, 0, none⟩)] W fun e w' => e = .returned (.bool b) ∧ Below W.heap.size W w')
    (h : check_Check.ix g l0 0 = some r) :
    Calls Tryd.prog 22 #[.slice A0 l0.length c0, .func (.func 23) #[] #[.pointer (some ⟨gr, 0, none⟩), .pointer (some ⟨gl, 0, none⟩)]] w fun e w' => e = .returned (.int .i64 r) ∧ Below w.heap.size w w' := by
  have huI := Tryd.underlying32
  have HR0 := Aside0.mk hr0
  have HL := Aside0.mk hlen
  have HP := Aside0.mk hp
  have HB := Aside0.mk (Below.refl w.heap.size w)
  have H' := Aside0.mk h
  clear hr0 hp h hlen
  go_enter Tryd.func22, Tryd.ntmps22
  go_wp2
  go_loopg [8] l0.length (fun kq v8 w' => ∃ (i : Nat), i ≤ l0.length ∧ l0.length - i ≤ kq ∧ v8 = .int .i64 i ∧ Aside0 (check_Check.ix g (l0.drop i) i = some r) ∧ Aside0 (Below w.heap.size w w'))
  case atStart => exact ⟨0, Nat.zero_le _, Nat.le_refl _, rfl, H', HB⟩
  case round =>
    clear H' HB
    obtain ⟨i, hi, hk, rfl, HA, HB⟩ := hrel
    by_cases hlt : i < l0.length
    · have h1 := HA.out
      have hd := check_Check.rd l0 i hlt
      rw [List.drop_eq_getElem_cons hlt, ← hd] at h1
      simp only [check_Check.ix] at h1
      obtain ⟨b, hb1, h1⟩ := Option.bind_eq_some_iff.1 h1
      have HB1 := Aside0.mk hb1
      clear hb1 HA hd
      obtain ⟨ad, e1, x0, x1, x2, x3, x4, x5, x6⟩ := at_T32 HR0.out (i : Int) (by omega) (by omega)
      cases e1
      simp only [Int.toNat_natCast] at x0 x1 x2 x3 x4 x5 x6
      replace x0 := (HB.out.cell (World.block_lt_of_cell? w _ x0)).trans x0
      replace x1 := (HB.out.cell (World.block_lt_of_cell? w _ x1)).trans x1
      replace x2 := (HB.out.cell (World.block_lt_of_cell? w _ x2)).trans x2
      replace x3 := (HB.out.cell (World.block_lt_of_cell? w _ x3)).trans x3
      replace x4 := (HB.out.cell (World.block_lt_of_cell? w _ x4)).trans x4
      replace x5 := (HB.out.cell (World.block_lt_of_cell? w _ x5)).trans x5
      replace x6 := (HB.out.cell (World.block_lt_of_cell? w _ x6)).trans x6
      have c1 : decide ((i : Int) < (l0.length : Int)) = true := decide_eq_true (by omega)
      have c2 : decide (0 ≤ (i : Int)) = true := decide_eq_true (by omega)
      have c3 : decide (i < l0.length) = true := decide_eq_true hlt
      have p3 := eq_true hlt
      have q3 := eq_true (show (i : Int) < (l0.length : Int) by omega)
      have HI := Aside0.mk hlt
      have hi64 : (i : Int) < 64 := by have := HL.out; omega
      clear hi hlt
      have HKq := Aside0.mk hk
      clear hk
      cases b with
      | true =>
        have h1 : i = r := by simpa using h1
        subst h1
        go_wp2_with (first | (go_at_fn 23; refine (HP.out _ _ _ HB1.out HB.out).mono ?_; rintro e w8 ⟨rfl, hb⟩; have n0_ := Aside0.mk (below_step HB.out hb); clear HB; have HB := n0_; clear n0_ hb))
        go_ret
        exact ⟨rfl, HB.out⟩
      | false =>
        have H1 := Aside0.mk (show check_Check.ix g (l0.drop (i + 1)) ((i + 1 : Nat) : Int) = some r from by simpa using h1)
        clear h1
        go_wp2_with (first | (go_at_fn 23; refine (HP.out _ _ _ HB1.out HB.out).mono ?_; rintro e w8 ⟨rfl, hb⟩; have n0_ := Aside0.mk (below_step HB.out hb); clear HB; have HB := n0_; clear n0_ hb))
        go_roundg (l0.length - (i + 1))
        case measure => have := HI.out; have := HKq.out; omega
        case rel => exact ⟨i + 1, by have := HI.out; omega, Nat.le_refl _, by go_num, H1, HB⟩
    · have hie : i = l0.length := by omega
      have h1 := HA.out
      rw [List.drop_eq_nil_of_le (by omega)] at h1
      have h2 : -1 = r := by simpa [check_Check.ix] using h1
      subst h2
      have c1 : decide ((i : Int) < (l0.length : Int)) = false := decide_eq_false (by omega)
      clear hi hk HA h1 hlt
      subst hie
      go_wp2
      go_ret
      exact ⟨rfl, HB.out⟩
def check_Check.odd (k : Nat) (n : Int) (m : Nat) (x : S32) : Option Bool :=
  if m = 3 then check_oddCode.f k x.f0 x.f1 x.f2 x.f3 x.f4.f0 x.f4.f1 x.f4.f2 n else if m = 2 then check_oddRegister.f k x.f0 x.f1 x.f2 x.f3 x.f4.f0 x.f4.f1 x.f4.f2 n else check_oddTarget.f x.f0 x.f1 x.f2 x.f3 x.f4.f0 x.f4.f1 x.f4.f2 n
def check_Check.err (m : Nat) : Int := if m = 3 then 4 else if m = 2 then 6 else 7
def check_Check.last (l : List S32) : Option (Int × Int) :=
  (check_ends.f (rd_T32 l ((l.length : Int) - 1)).f0 (rd_T32 l ((l.length : Int) - 1)).f1 (rd_T32 l ((l.length : Int) - 1)).f2 (rd_T32 l ((l.length : Int) - 1)).f3 (rd_T32 l ((l.length : Int) - 1)).f4.f0 (rd_T32 l ((l.length : Int) - 1)).f4.f1 (rd_T32 l ((l.length : Int) - 1)).f4.f2).bind fun e => some (if e = true then ((0 : Int), (0 : Int)) else (13, (l.length : Int) - 1))
def check_Check.T (k : Nat) (l : List S32) : Nat → Option (Int × Int)
  | 0 => check_Check.last l
  | m + 1 => (check_Check.ix (check_Check.odd k (l.length : Int) (m + 1)) l 0).bind fun a => if 0 ≤ a then some (check_Check.err (m + 1), a) else check_Check.T k l m
def check_Check.f (k : Nat) (l0 : List S32) : Option (Int × Int) := if l0.length = 0 then some (1, 0) else if 64 < l0.length then some (3, 64) else check_Check.T k l0 3
theorem check_Check.ix_mono {g g' : S32 → Option Bool} (h : ∀ x, LeO (g x) (g' x)) : ∀ l i, LeO (check_Check.ix g l i) (check_Check.ix g' l i) := by
  intro l
  induction l with
  | nil => intro i; exact LeO.refl _
  | cons x l ih => 
    intro i
    simp only [check_Check.ix]
    exact LeO.bind (h x) (fun b => LeO.ite (LeO.refl _) (ih _))
theorem check_Check.mono : ∀ a0 k, LeO (check_Check.f k a0) (check_Check.f (k + 1) a0) := by
  intro l k
  unfold check_Check.f
  refine LeO.ite (LeO.refl _) (LeO.ite (LeO.refl _) ?_)
  have ho : ∀ m x, LeO (check_Check.odd k (l.length : Int) m x) (check_Check.odd (k + 1) (l.length : Int) m x) := by
    intro m x
    unfold check_Check.odd
    exact LeO.ite (check_oddCode.mono _ _ _ _ _ _ _ _ _) (LeO.ite (check_oddRegister.mono _ _ _ _ _ _ _ _ _) (LeO.refl _))
  have : ∀ m, LeO (check_Check.T k l m) (check_Check.T (k + 1) l m) := by
    intro m
    induction m with
    | zero => exact LeO.refl _
    | succ m ih => exact LeO.bind (check_Check.ix_mono (ho (m + 1)) l 0) (fun a => LeO.ite (LeO.refl _) ih)
  exact this 3
set_option maxHeartbeats 8000000 in
set_option maxRecDepth 100000 in
theorem check_Check.calls (k : Nat) (A0 : Option Addr) (c0 : Nat) (l0 : List S32) (r1 r2 : Int) (w : World) (hr0 : Kd.C k32 w A0 l0.length l0) (hc0 : l0.length ≤ c0) (h : check_Check.f k l0 = some (r1, r2)) :
    Calls Tryd.prog 9 #[.slice A0 l0.length c0] w fun e w' => e = .returned (.tuple #[.int .i64 r1, .int .i64 r2]) ∧ Below w.heap.size w w' := by
  have HR := Aside0.mk hr0
  have HB := Aside0.mk (Below.refl w.heap.size w)
  clear hr0 hc0
  have huI := Tryd.underlying32
  have huR := Tryd.underlying44
  unfold check_Check.f at h
  by_cases h0 : l0.length = 0
  · rw [if_pos h0] at h
    simp only [Option.some.injEq, Prod.mk.injEq] at h
    obtain ⟨rfl, rfl⟩ := h
    have c1 : ((l0.length : Int) == 0) = true := by simp [h0]
    clear h0
    go_enter Tryd.func9, Tryd.ntmps9
    go_wp2
    go_ret2
    exact ⟨rfl, below_alloc (Below.refl _ _) _⟩
  · rw [if_neg h0] at h
    have c1 : ((l0.length : Int) == 0) = false := by simp; intro h; exact h0 (by rw [h]; rfl)
    by_cases h64 : 64 < l0.length
    · rw [if_pos h64] at h
      simp only [Option.some.injEq, Prod.mk.injEq] at h
      obtain ⟨rfl, rfl⟩ := h
      have c2 : decide (64 < l0.length) = true := decide_eq_true h64
      have c3 : decide (64 < (l0.length : Int)) = true := decide_eq_true (by omega)
      clear h0 h64
      go_enter Tryd.func9, Tryd.ntmps9
      go_wp2
      go_ret2
      exact ⟨rfl, below_alloc (Below.refl _ _) _⟩
    · rw [if_neg h64] at h
      have c2 : decide (64 < l0.length) = false := decide_eq_false h64
      have c3 : decide (64 < (l0.length : Int)) = false := decide_eq_false (by omega)
      have H := Aside0.mk h
      have HL := Aside0.mk h64
      have HN := Aside0.mk h0
      clear h h0 h64
      go_enter Tryd.func9, Tryd.ntmps9
      go_wp2
      have eg23 : ∀ args w, (callFunc 23 args).run Tryd.prog w = .ok (.enter 23 args) w := enters_of Tryd.func23 (by kernel_rfl) rfl
      have EG := Aside0.mk eg23
      have nl : l0.length ≤ 64 := Nat.le_of_not_lt HL.out
      have NL := Aside0.mk nl
      clear nl
      go_loopg [21] 3 (fun kq v21 wc => ∃ m : Nat, m ≤ 3 ∧ m ≤ kq ∧ v21 = .int .i64 (3 - (m : Int)) ∧ Aside0 (check_Check.T k l0 m = some (r1, r2)) ∧ Aside0 (wc.heap[w.heap.size]? = some (.cells #[.slice A0 l0.length c0] 22 (0, 0))) ∧ Aside0 (wc.heap[w.heap.size + 1]? = some (.cells #[.int .i64 4, .func (.func 19) #[] #[], .int .i64 6, .func (.func 20) #[] #[], .int .i64 7, .func (.func 21) #[] #[]] 44 (0, 0))) ∧ Aside0 (Below w.heap.size w wc))
      case atStart => exact ⟨3, Nat.le_refl _, Nat.le_refl _, rfl, H, ⟨blk_alloc (blk_new w _) _⟩, ⟨by have := blk_new (w.alloc (.cells #[.slice A0 l0.length c0] 22)) (.cells #[.int .i64 4, .func (.func 19) #[] #[], .int .i64 6, .func (.func 20) #[] #[], .int .i64 7, .func (.func 21) #[] #[]] 44); rwa [World.size_alloc] at this⟩, ⟨below_alloc (below_alloc (Below.refl _ _) _) _⟩⟩
      case round =>
      clear H HB
      obtain ⟨m, hm, hk, hv, HT, BL, BR, HB⟩ := hrel
      have hT := HT.out
      clear HT
      have y0 : wr.cell? ⟨w.heap.size, 0, none⟩ = some (.slice A0 l0.length c0) := (blk_cell BL.out 0).trans rfl
      have z0 : wr.cell? ⟨w.heap.size + 1, 0, none⟩ = some (.int .i64 4) := (blk_cell BR.out 0).trans rfl
      have z1 : wr.cell? ⟨w.heap.size + 1, 1, none⟩ = some (.func (.func 19) #[] #[]) := (blk_cell BR.out 1).trans rfl
      have z2 : wr.cell? ⟨w.heap.size + 1, 2, none⟩ = some (.int .i64 6) := (blk_cell BR.out 2).trans rfl
      have z3 : wr.cell? ⟨w.heap.size + 1, 3, none⟩ = some (.func (.func 20) #[] #[]) := (blk_cell BR.out 3).trans rfl
      have z4 : wr.cell? ⟨w.heap.size + 1, 4, none⟩ = some (.int .i64 7) := (blk_cell BR.out 4).trans rfl
      have z5 : wr.cell? ⟨w.heap.size + 1, 5, none⟩ = some (.func (.func 21) #[] #[]) := (blk_cell BR.out 5).trans rfl
      have ltl := blk_lt BL.out
      have nel := Nat.ne_of_lt ltl
      have HK := Aside0.mk hk
      clear hk
      have hm4 : m = 0 ∨ m = 3 ∨ m = 2 ∨ m = 1 := by omega
      clear hm
      rcases hm4 with rfl | rfl | rfl | rfl
      · replace hv := (show _ = Value.int .i64 3 from hv)
        subst hv
        simp only [check_Check.T, check_Check.last] at hT
        obtain ⟨e, he, hT1⟩ := Option.bind_eq_some_iff.1 hT
        clear hT
        have hT := hT1
        clear hT1
        have HE := Aside0.mk he
        clear he
        have hpos : 0 < l0.length := Nat.pos_of_ne_zero HN.out
        have nl := NL.out
        have hw : IntKind.i64.wrap ((l0.length : Int) - 1) = (l0.length : Int) - 1 := IntWalk.i64_in _ (by omega)
        have hw2 : wrap64 ((l0.length : Int) - 1) = (l0.length : Int) - 1 := IntWalk.wrap64_in _ ⟨by omega, by omega⟩
        obtain ⟨ad, e1, x0, x1, x2, x3, x4, x5, x6⟩ := at_T32 HR.out ((l0.length : Int) - 1) (by omega) (by omega)
        cases e1
        have hnat : ((l0.length : Int) - 1).toNat = l0.length - 1 := by omega
        simp only [hnat] at x0 x1 x2 x3 x4 x5 x6
        clear hnat
        replace x0 := (HB.out.cell (World.block_lt_of_cell? w _ x0)).trans x0
        replace x1 := (HB.out.cell (World.block_lt_of_cell? w _ x1)).trans x1
        replace x2 := (HB.out.cell (World.block_lt_of_cell? w _ x2)).trans x2
        replace x3 := (HB.out.cell (World.block_lt_of_cell? w _ x3)).trans x3
        replace x4 := (HB.out.cell (World.block_lt_of_cell? w _ x4)).trans x4
        replace x5 := (HB.out.cell (World.block_lt_of_cell? w _ x5)).trans x5
        replace x6 := (HB.out.cell (World.block_lt_of_cell? w _ x6)).trans x6
        have p1 := eq_true (show 0 ≤ (l0.length : Int) - 1 by omega)
        have p2 := eq_true (show (l0.length : Int) - 1 < (l0.length : Int) by omega)
        have p3 := eq_true (show 1 ≤ (l0.length : Int) by omega)
        have p4 := eq_false (show ¬ (l0.length : Int) < 1 by omega)
        clear hpos nl
        cases e with
        | true =>
          simp only [if_true, Option.some.injEq, Prod.mk.injEq] at hT
          obtain ⟨rfl, rfl⟩ := hT
          go_wp2_with (first | (go_at_call 24; refine (check_ends.calls _ _ _ _ _ _ _ true _ HE.out).mono ?_; rintro e w8 ⟨rfl, hb⟩; have HB8 := Aside0.mk (below_step HB.out hb); clear hb))
          go_ret2
          exact ⟨rfl, HB8.out⟩
        | false =>
          simp only [Bool.false_eq_true, if_false, Option.some.injEq, Prod.mk.injEq] at hT
          obtain ⟨rfl, rfl⟩ := hT
          go_wp2_with (first | (go_at_call 24; refine (check_ends.calls _ _ _ _ _ _ _ false _ HE.out).mono ?_; rintro e w8 ⟨rfl, hb⟩; have HB8 := Aside0.mk (below_step HB.out hb); clear hb))
          go_ret2
          exact ⟨rfl, HB8.out⟩
      · replace hv := (show _ = Value.int .i64 0 from hv)
        subst hv
        simp only [check_Check.T] at hT
        obtain ⟨a, ha, hT⟩ := Option.bind_eq_some_iff.1 hT
        have HA := Aside0.mk ha
        clear ha
        by_cases ca : 0 ≤ a
        · rw [if_pos ca] at hT
          simp only [Option.some.injEq, Prod.mk.injEq] at hT
          obtain ⟨rfl, rfl⟩ := hT
          have ca1 : decide (0 ≤ a) = true := decide_eq_true ca
          clear ca
          go_wp2_with (first | (go_at_call 22; refine (check_Check.idx (check_Check.odd k (l0.length : Int) 3) eg23 _ w.heap.size A0 c0 l0 a _ (Kd.C_below HR.out (below_alloc HB.out _)) (Nat.le_of_not_lt HL.out) ?h2 HA.out).mono ?_; (case h2 => intro x b W hx hbW; exact check_Check.clo 19 (enters_of Tryd.func19 (by kernel_rfl) rfl) x l0.length b _ _ A0 c0 4 W (blk_below (blk_new wr _) hbW) (blk_below (blk_alloc BL.out _) hbW) (fun W' => check_oddCode.calls k _ _ _ _ _ _ _ _ b W' (by simpa [check_Check.odd] using hx))); rintro e w8 ⟨rfl, hb⟩; have HB8 := Aside0.mk (below_step (below_alloc HB.out _) hb); have BL8 := Aside0.mk (blk_below (blk_alloc BL.out _) hb); have BR8 := Aside0.mk (blk_below (blk_alloc BR.out _) hb); have yr : w8.cell? ⟨wr.heap.size, 0, none⟩ = some (.int .i64 4) := (blk_cell (blk_below (blk_new wr _) hb) 0).trans rfl; have y8 : w8.cell? ⟨w.heap.size, 0, none⟩ = some (.slice A0 l0.length c0) := (blk_cell BL8.out 0).trans rfl; clear hb))
          go_ret2
          exact ⟨rfl, HB8.out⟩
        · rw [if_neg ca] at hT
          have ca1 : decide (0 ≤ a) = false := decide_eq_false ca
          have HT1 := Aside0.mk hT
          clear ca hT
          go_wp2_with (first | (go_at_call 22; refine (check_Check.idx (check_Check.odd k (l0.length : Int) 3) eg23 _ w.heap.size A0 c0 l0 a _ (Kd.C_below HR.out (below_alloc HB.out _)) (Nat.le_of_not_lt HL.out) ?h2 HA.out).mono ?_; (case h2 => intro x b W hx hbW; exact check_Check.clo 19 (enters_of Tryd.func19 (by kernel_rfl) rfl) x l0.length b _ _ A0 c0 4 W (blk_below (blk_new wr _) hbW) (blk_below (blk_alloc BL.out _) hbW) (fun W' => check_oddCode.calls k _ _ _ _ _ _ _ _ b W' (by simpa [check_Check.odd] using hx))); rintro e w8 ⟨rfl, hb⟩; have HB8 := Aside0.mk (below_step (below_alloc HB.out _) hb); have BL8 := Aside0.mk (blk_below (blk_alloc BL.out _) hb); have BR8 := Aside0.mk (blk_below (blk_alloc BR.out _) hb); have yr : w8.cell? ⟨wr.heap.size, 0, none⟩ = some (.int .i64 4) := (blk_cell (blk_below (blk_new wr _) hb) 0).trans rfl; have y8 : w8.cell? ⟨w.heap.size, 0, none⟩ = some (.slice A0 l0.length c0) := (blk_cell BL8.out 0).trans rfl; clear hb))
          go_roundg 2
          case measure => have := HK.out; omega
          case rel => exact ⟨2, by omega, Nat.le_refl _, rfl, HT1, BL8, BR8, HB8⟩
      · replace hv := (show _ = Value.int .i64 1 from hv)
        subst hv
        simp only [check_Check.T] at hT
        obtain ⟨a, ha, hT⟩ := Option.bind_eq_some_iff.1 hT
        have HA := Aside0.mk ha
        clear ha
        by_cases ca : 0 ≤ a
        · rw [if_pos ca] at hT
          simp only [Option.some.injEq, Prod.mk.injEq] at hT
          obtain ⟨rfl, rfl⟩ := hT
          have ca1 : decide (0 ≤ a) = true := decide_eq_true ca
          clear ca
          go_wp2_with (first | (go_at_call 22; refine (check_Check.idx (check_Check.odd k (l0.length : Int) 2) eg23 _ w.heap.size A0 c0 l0 a _ (Kd.C_below HR.out (below_alloc HB.out _)) (Nat.le_of_not_lt HL.out) ?h2 HA.out).mono ?_; (case h2 => intro x b W hx hbW; exact check_Check.clo 20 (enters_of Tryd.func20 (by kernel_rfl) rfl) x l0.length b _ _ A0 c0 6 W (blk_below (blk_new wr _) hbW) (blk_below (blk_alloc BL.out _) hbW) (fun W' => check_oddRegister.calls k _ _ _ _ _ _ _ _ b W' (by simpa [check_Check.odd] using hx))); rintro e w8 ⟨rfl, hb⟩; have HB8 := Aside0.mk (below_step (below_alloc HB.out _) hb); have BL8 := Aside0.mk (blk_below (blk_alloc BL.out _) hb); have BR8 := Aside0.mk (blk_below (blk_alloc BR.out _) hb); have yr : w8.cell? ⟨wr.heap.size, 0, none⟩ = some (.int .i64 6) := (blk_cell (blk_below (blk_new wr _) hb) 0).trans rfl; have y8 : w8.cell? ⟨w.heap.size, 0, none⟩ = some (.slice A0 l0.length c0) := (blk_cell BL8.out 0).trans rfl; clear hb))
          go_ret2
          exact ⟨rfl, HB8.out⟩
        · rw [if_neg ca] at hT
          have ca1 : decide (0 ≤ a) = false := decide_eq_false ca
          have HT1 := Aside0.mk hT
          clear ca hT
          go_wp2_with (first | (go_at_call 22; refine (check_Check.idx (check_Check.odd k (l0.length : Int) 2) eg23 _ w.heap.size A0 c0 l0 a _ (Kd.C_below HR.out (below_alloc HB.out _)) (Nat.le_of_not_lt HL.out) ?h2 HA.out).mono ?_; (case h2 => intro x b W hx hbW; exact check_Check.clo 20 (enters_of Tryd.func20 (by kernel_rfl) rfl) x l0.length b _ _ A0 c0 6 W (blk_below (blk_new wr _) hbW) (blk_below (blk_alloc BL.out _) hbW) (fun W' => check_oddRegister.calls k _ _ _ _ _ _ _ _ b W' (by simpa [check_Check.odd] using hx))); rintro e w8 ⟨rfl, hb⟩; have HB8 := Aside0.mk (below_step (below_alloc HB.out _) hb); have BL8 := Aside0.mk (blk_below (blk_alloc BL.out _) hb); have BR8 := Aside0.mk (blk_below (blk_alloc BR.out _) hb); have yr : w8.cell? ⟨wr.heap.size, 0, none⟩ = some (.int .i64 6) := (blk_cell (blk_below (blk_new wr _) hb) 0).trans rfl; have y8 : w8.cell? ⟨w.heap.size, 0, none⟩ = some (.slice A0 l0.length c0) := (blk_cell BL8.out 0).trans rfl; clear hb))
          go_roundg 1
          case measure => have := HK.out; omega
          case rel => exact ⟨1, by omega, Nat.le_refl _, rfl, HT1, BL8, BR8, HB8⟩
      · replace hv := (show _ = Value.int .i64 2 from hv)
        subst hv
        simp only [check_Check.T] at hT
        obtain ⟨a, ha, hT⟩ := Option.bind_eq_some_iff.1 hT
        have HA := Aside0.mk ha
        clear ha
        by_cases ca : 0 ≤ a
        · rw [if_pos ca] at hT
          simp only [Option.some.injEq, Prod.mk.injEq] at hT
          obtain ⟨rfl, rfl⟩ := hT
          have ca1 : decide (0 ≤ a) = true := decide_eq_true ca
          clear ca
          go_wp2_with (first | (go_at_call 22; refine (check_Check.idx (check_Check.odd k (l0.length : Int) 1) eg23 _ w.heap.size A0 c0 l0 a _ (Kd.C_below HR.out (below_alloc HB.out _)) (Nat.le_of_not_lt HL.out) ?h2 HA.out).mono ?_; (case h2 => intro x b W hx hbW; exact check_Check.clo 21 (enters_of Tryd.func21 (by kernel_rfl) rfl) x l0.length b _ _ A0 c0 7 W (blk_below (blk_new wr _) hbW) (blk_below (blk_alloc BL.out _) hbW) (fun W' => check_oddTarget.calls _ _ _ _ _ _ _ _ b W' (by simpa [check_Check.odd] using hx))); rintro e w8 ⟨rfl, hb⟩; have HB8 := Aside0.mk (below_step (below_alloc HB.out _) hb); have BL8 := Aside0.mk (blk_below (blk_alloc BL.out _) hb); have BR8 := Aside0.mk (blk_below (blk_alloc BR.out _) hb); have yr : w8.cell? ⟨wr.heap.size, 0, none⟩ = some (.int .i64 7) := (blk_cell (blk_below (blk_new wr _) hb) 0).trans rfl; have y8 : w8.cell? ⟨w.heap.size, 0, none⟩ = some (.slice A0 l0.length c0) := (blk_cell BL8.out 0).trans rfl; clear hb))
          go_ret2
          exact ⟨rfl, HB8.out⟩
        · rw [if_neg ca] at hT
          have ca1 : decide (0 ≤ a) = false := decide_eq_false ca
          have HT1 := Aside0.mk hT
          clear ca hT
          go_wp2_with (first | (go_at_call 22; refine (check_Check.idx (check_Check.odd k (l0.length : Int) 1) eg23 _ w.heap.size A0 c0 l0 a _ (Kd.C_below HR.out (below_alloc HB.out _)) (Nat.le_of_not_lt HL.out) ?h2 HA.out).mono ?_; (case h2 => intro x b W hx hbW; exact check_Check.clo 21 (enters_of Tryd.func21 (by kernel_rfl) rfl) x l0.length b _ _ A0 c0 7 W (blk_below (blk_new wr _) hbW) (blk_below (blk_alloc BL.out _) hbW) (fun W' => check_oddTarget.calls _ _ _ _ _ _ _ _ b W' (by simpa [check_Check.odd] using hx))); rintro e w8 ⟨rfl, hb⟩; have HB8 := Aside0.mk (below_step (below_alloc HB.out _) hb); have BL8 := Aside0.mk (blk_below (blk_alloc BL.out _) hb); have BR8 := Aside0.mk (blk_below (blk_alloc BR.out _) hb); have yr : w8.cell? ⟨wr.heap.size, 0, none⟩ = some (.int .i64 7) := (blk_cell (blk_below (blk_new wr _) hb) 0).trans rfl; have y8 : w8.cell? ⟨w.heap.size, 0, none⟩ = some (.slice A0 l0.length c0) := (blk_cell BL8.out 0).trans rfl; clear hb))
          go_roundg 0
          case measure => have := HK.out; omega
          case rel => exact ⟨0, by omega, Nat.le_refl _, rfl, HT1, BL8, BR8, HB8⟩

end Go.Proofs.YtbdmfpgiolaooaaDoor.PAll
