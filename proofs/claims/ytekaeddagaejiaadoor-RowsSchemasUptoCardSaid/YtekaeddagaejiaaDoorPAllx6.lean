/- Printed walks of the functions that the laws reach: each function, what it computes, and that it does. No conditions. -/
import Derived.Test.YtekaeddagaejiaaDoorPAllx0
import Derived.Test.YtekaeddagaejiaaDoorPAllx1
namespace Go.Proofs.YtekaeddagaejiaaDoor.PAll
open Go.RowKit Go.Proofs.YtekaeddagaejiaaDoor.XW Go.Proofs.YtekaeddagaejiaaDoor.XLib Go.Proofs.YtekaeddagaejiaaDoorW.PrintWords Go.Proofs.YtekaeddagaejiaaDoorW.PrintLast Go.Proofs.YtekaeddagaejiaaDoorW.PrintMore
attribute [local go_sem] max2_int min2_int max_two min_two max_three min_three max_four min_four   -- for this text's walks alone
set_option linter.unusedVariables false
set_option linter.unusedSimpArgs false

/-- A state of type 84 at block g of W; what its slices lead to came in by w0. -/
def IsS84 (w0 W : World) (g : Nat) (f0 : ByteArray) (f1 : Int) : Prop := W.heap[g]? = some (.cells #[.string f0, .int .i64 f1] 84 (0, 0)) ∧ w0.heap.size ≤ g
theorem IsS84.grown {w0 W : World} {g : Nat} {f0 : ByteArray} {f1 : Int} {W1 : World} {row : Option Nat} (h : IsS84 w0 W g f0 f1) (hw : W.grownBy W1 row) (hne : some g ≠ row) : IsS84 w0 W1 g f0 f1 := by
  obtain ⟨hb, hg⟩ := h
  exact ⟨blk_grown hb hw hne, hg⟩
theorem IsS84.own_neN {w0 W : World} {g : Nat} {f0 : ByteArray} {f1 : Int} {α : Type} {d : Kd α} {e : Nat} {base : Nat} {ok : Nat → Prop} {v : Value} {xs : List α} (h : IsS84 w0 W g f0 f1) (ho : Kd.N d e W base ok v xs) (ht : e ≠ 84) : some g ≠ v.ownBlock := by
  obtain ⟨hb, hg⟩ := h
  exact Kd.N_ne ho hb ht
theorem IsS84.fresh {w0 W : World} {g : Nat} {f0 : ByteArray} {f1 : Int} (h : IsS84 w0 W g f0 f1) : ∀ k, W.heap.size ≤ k → k ≠ g := by
  obtain ⟨hb, hg⟩ := h
  exact Kd.freshB hb
theorem IsS84.kept {w0 W : World} {g : Nat} {f0 : ByteArray} {f1 : Int} {W1 : World} {S : Nat → Prop} (h : IsS84 w0 W g f0 f1) (hk : Kept W W1 S) (hne : ¬ S g) : IsS84 w0 W1 g f0 f1 := by
  obtain ⟨hb, hg⟩ := h
  exact ⟨blk_kept hb hk hne, hg⟩
theorem IsS84.below {w0 W : World} {g : Nat} {f0 : ByteArray} {f1 : Int} {W1 : World} (h : IsS84 w0 W g f0 f1) (hw : Below W.heap.size W W1) : IsS84 w0 W1 g f0 f1 := h.grown (grown_of_below hw none) (by simp)
theorem IsS84.alloc {w0 W : World} {g : Nat} {f0 : ByteArray} {f1 : Int} (h : IsS84 w0 W g f0 f1) (o : Obj) : IsS84 w0 (W.alloc o) g f0 f1 := h.below (below_alloc (Below.refl _ _) o)
theorem IsS84.drewN {w0 W : World} {g : Nat} {f0 : ByteArray} {f1 : Int} (h : IsS84 w0 W g f0 f1) (m : Nat) : IsS84 w0 (W.drewN m) g f0 f1 := h
theorem IsS84.drew {w0 W : World} {g : Nat} {f0 : ByteArray} {f1 : Int} (h : IsS84 w0 W g f0 f1) : IsS84 w0 W.drew g f0 f1 := h
theorem IsS84.at_ {w0 W : World} {g : Nat} {f0 : ByteArray} {f1 : Int} {w' : World} {m : Nat} (hq : W.drewN m = w') (h : IsS84 w0 W g f0 f1) : IsS84 w0 w' g f0 f1 := by subst hq; exact IsS84.drewN h m
theorem IsS84.apart {w0 W : World} {g : Nat} {f0 : ByteArray} {f1 : Int} {α : Type} {d : Kd α} {e : Nat} {base : Nat} {ok : Nat → Prop} {v : Value} {xs : List α} (h : IsS84 w0 W g f0 f1) (ho : d.R e W base ok v xs) (ht : ∀ q, q ∈ e :: d.E → q ≠ 84) : d.R e W base (fun k => ok k ∧ k ≠ g) v xs := by
  obtain ⟨hb, hg⟩ := h
  exact Kd.R_types ho hb ht
theorem IsS84.own_ne {w0 W : World} {g : Nat} {f0 : ByteArray} {f1 : Int} {α : Type} {d : Kd α} {e : Nat} {base : Nat} {ok : Nat → Prop} {v : Value} {xs : List α} (h : IsS84 w0 W g f0 f1) (ho : d.R e W base ok v xs) (ht : e ≠ 84) : some g ≠ v.ownBlock := by
  obtain ⟨hb, hg⟩ := h
  exact Kd.R_ne ho hb ht
theorem IsS84.apartQ {w0 W : World} {g : Nat} {f0 : ByteArray} {f1 : Int} {α : Type} {d : Kd α} {e : Nat} {base : Nat} {ok : Nat → Prop} {v : Value} {xs : List α} (h : IsS84 w0 W g f0 f1) (ho : d.Q e W base ok v xs) (ht : ∀ q, q ∈ e :: d.E → q ≠ 84) : d.Q e W base (fun k => ok k ∧ k ≠ g) v xs := by
  obtain ⟨hb, hg⟩ := h
  exact Kd.Q_types ho hb ht
theorem IsS84.own_neQ {w0 W : World} {g : Nat} {f0 : ByteArray} {f1 : Int} {α : Type} {d : Kd α} {e : Nat} {base : Nat} {ok : Nat → Prop} {v : Value} {xs : List α} (h : IsS84 w0 W g f0 f1) (ho : d.Q e W base ok v xs) (ht : e ≠ 84) : some g ≠ v.ownBlock := by
  obtain ⟨hb, hg⟩ := h
  exact Kd.Q_ne ho hb ht
theorem IsS84.apartS {w0 W : World} {g : Nat} {f0 : ByteArray} {f1 : Int} {α : Type} {d : Kd α} {e : Nat} {base : Nat} {ok : Nat → Prop} {v : Value} {xs : List α} (h : IsS84 w0 W g f0 f1) (ho : d.S e W base ok v xs) (ht : ∀ q, q ∈ e :: d.E → q ≠ 84) : d.S e W base (fun k => ok k ∧ k ≠ g) v xs := by
  obtain ⟨hb, hg⟩ := h
  exact Kd.S_types ho hb ht
theorem IsS84.own_neS {w0 W : World} {g : Nat} {f0 : ByteArray} {f1 : Int} {α : Type} {d : Kd α} {e : Nat} {base : Nat} {ok : Nat → Prop} {v : Value} {xs : List α} (h : IsS84 w0 W g f0 f1) (ho : d.S e W base ok v xs) (ht : e ≠ 84) : some g ≠ v.ownBlock := by
  obtain ⟨hb, hg⟩ := h
  exact Kd.S_ne ho hb ht
theorem IsS84.lt {w0 W : World} {g : Nat} {f0 : ByteArray} {f1 : Int} (h : IsS84 w0 W g f0 f1) : g < W.heap.size := by
  obtain ⟨hb, hg⟩ := h
  exact blk_lt hb
theorem IsS84.ge {w0 W : World} {g : Nat} {f0 : ByteArray} {f1 : Int} (h : IsS84 w0 W g f0 f1) : w0.heap.size ≤ g := by
  obtain ⟨hb, hg⟩ := h
  exact hg
theorem IsS84.ne_blk {w0 W : World} {g : Nat} {f0 : ByteArray} {f1 : Int} {a : Nat} {cs : Array Value} {t : TypeId} {fr : Nat × Nat} (h : IsS84 w0 W g f0 f1) (hb2 : W.heap[a]? = some (.cells cs t fr)) (ht : t ≠ 84) : g ≠ a := by
  obtain ⟨hb, hg⟩ := h
  rintro rfl
  rw [hb] at hb2
  injection hb2 with hb2
  injection hb2 with _ ht2
  exact ht ht2.symm
theorem IsS84.far {w0 W : World} {g : Nat} {f0 : ByteArray} {f1 : Int} {p : Addr} (h : IsS84 w0 W g f0 f1) (hne : g ≠ p.block) (u : Value) : IsS84 w0 (W.setCell p u) g f0 f1 := by
  obtain ⟨hb, hg⟩ := h
  exact ⟨blk_far hb hne u, hg⟩
theorem cellS84_0 {W : World} {g : Nat} {f0 : ByteArray} {f1 : Int} (h : W.heap[g]? = some (.cells #[.string f0, .int .i64 f1] 84 (0, 0))) : W.cell? ⟨g, 0, none⟩ = some (.string f0) := (blk_cell h 0).trans rfl
theorem IsS84.set_0 {w0 W : World} {g : Nat} {f0 : ByteArray} {f1 : Int} (h : IsS84 w0 W g f0 f1) (x : ByteArray) : IsS84 w0 (W.setCell ⟨g, 0, none⟩ (.string x)) g x f1 := by
  obtain ⟨hb, hg⟩ := h
  exact ⟨by simpa using blk_set hb 0 (.string x), hg⟩
theorem cellS84_1 {W : World} {g : Nat} {f0 : ByteArray} {f1 : Int} (h : W.heap[g]? = some (.cells #[.string f0, .int .i64 f1] 84 (0, 0))) : W.cell? ⟨g, 1, none⟩ = some (.int .i64 f1) := (blk_cell h 1).trans rfl
theorem IsS84.set_1 {w0 W : World} {g : Nat} {f0 : ByteArray} {f1 : Int} (h : IsS84 w0 W g f0 f1) (x : Int) : IsS84 w0 (W.setCell ⟨g, 1, none⟩ (.int .i64 x)) g f0 x := by
  obtain ⟨hb, hg⟩ := h
  exact ⟨by simpa using blk_set hb 1 (.int .i64 x), hg⟩
theorem IsS84.new (w0 W : World) (f0 : ByteArray) (f1 : Int) (hB : Below w0.heap.size w0 W) : IsS84 w0 (W.alloc (.cells #[.string f0, .int .i64 f1] 84)) W.heap.size f0 f1 := ⟨by simpa using heap_alloc_new W _, hB.size⟩

/-! ### pack_From: function 42 -/
def pack_From.f (a0 : ByteArray) : Option (ByteArray × Int) := some (a0, 0)
set_option maxHeartbeats 8000000 in
set_option maxRecDepth 100000 in
theorem pack_From.calls (a0 : ByteArray) (r1 : ByteArray) (r2 : Int) (w0 w : World) (hB : Below w0.heap.size w0 w) (h : pack_From.f a0 = some (r1, r2)) :
    Calls Tryd.prog 42 #[.string a0] w fun e w' => ∃ g_ : Nat, e = .returned (.pointer (some ⟨g_, 0, none⟩)) ∧ IsS84 w0 w' g_ r1 r2 ∧ Below w0.heap.size w0 w' ∧ Below w.heap.size w w' := by
  have hu84 := Tryd.underlying84
  have HBW := Aside0.mk (Below.refl w.heap.size w)
  have HW0 := Aside0.mk hB.size
  have HB := Aside0.mk hB
  clear hB
  have H : (some (a0, 0)) = some (r1, r2) := h
  clear h
  simp only [Option.some.injEq, Prod.mk.injEq] at H
  obtain ⟨rfl, rfl⟩ := H
  go_enter Tryd.func42, Tryd.ntmps42
  go_wp2_with (first | ((with_reducible refine gate_dst (N := 5) rfl ?_); refine box_event ?hg (N := 5) ?hd (cs := #[.string a0, .int .i64 0]) (t := 84) ?hr ?_; (case hd => rfl); (case hg => rfl); (case hr => first | (go_simp; done) | (go_simp; rfl)); intro gb167 hg w2 hbox hb; have n0_ := Aside0.mk (below_step HBW.out hb); have n1_ := Aside0.mk (below_step (by repeat (first | (with_reducible first | exact HB.out | apply below_alloc | apply pw_below_drewN | apply below_drew1) | exact HB.out)) hb); have n2_ := Aside0.mk (hbox); have n3_ := Aside0.mk ((by rw [hg]; exact (below_size (by repeat (first | (with_reducible first | exact HBW.out | apply below_alloc | apply pw_below_drewN | apply below_drew1) | exact HBW.out))) : w.heap.size ≤ gb167)); have n4_ := Aside0.mk ((Nat.le_trans HW0.out (by rw [hg]; exact (below_size (by repeat (first | (with_reducible first | exact HBW.out | apply below_alloc | apply pw_below_drewN | apply below_drew1) | exact HBW.out))) : w.heap.size ≤ gb167) : w0.heap.size ≤ gb167)); clear HBW; clear HB; have HBW := n0_; have HB := n1_; have BK167 := n2_; have GW167 := n3_; have GE167 := n4_; clear n0_ n1_ n2_ n3_ n4_; clear hb hbox hg))
  go_ret
  exact ⟨_, rfl, (show IsS84 w0 _ gb167 a0 0 from ⟨by (with_reducible repeat (first | refine blk_drewN ?_ _ | refine blk_drew ?_ | refine blk_alloc ?_ _)); exact BK167.out, GE167.out⟩), by repeat (first | (with_reducible first | exact HB.out | apply below_alloc | apply pw_below_drewN | apply below_drew1 | refine below_set ?_ GE167.out) | exact HB.out), by repeat (first | (with_reducible first | exact HBW.out | apply below_alloc | apply pw_below_drewN | apply below_drew1 | refine below_set ?_ GW167.out) | exact HBW.out)⟩

/-! ### pack_Reader_take: function 62 -/
def pack_Reader_take.f (s0_0 : ByteArray) (s0_1 : Int) (a1 : Int) : Option (ByteArray × Bool × ByteArray × Int) := if s0_1 = 0 then (if a1 > (s0_0.size : Int) then (some ((⟨#[]⟩ : ByteArray), false, s0_0, 2)) else (if 0 ≤ a1 then (if a1 ≤ (s0_0.size : Int) then (some (s0_0.extract 0 (a1 : Int).toNat, true, s0_0.extract (a1 : Int).toNat s0_0.size, s0_1)) else (none)) else (none))) else (some ((⟨#[]⟩ : ByteArray), false, s0_0, s0_1))
set_option maxHeartbeats 8000000 in
set_option maxRecDepth 100000 in
theorem pack_Reader_take.calls (g : Nat) (s0_0 : ByteArray) (s0_1 : Int) (a1 : Int) (r1 : ByteArray) (r2 : Bool) (r3 : ByteArray) (r4 : Int) (w0 w : World) (hI : IsS84 w0 w g s0_0 s0_1) (hB : Below w0.heap.size w0 w) (h : pack_Reader_take.f s0_0 s0_1 a1 = some (r1, r2, r3, r4)) :
    Calls Tryd.prog 62 #[.pointer (some ⟨g, 0, none⟩), .int .i64 a1] w fun e w' => e = .returned (.tuple #[.string r1, .bool r2]) ∧ IsS84 w0 w' g r3 r4 ∧ Below w0.heap.size w0 w' ∧ KeepBut w w' g none := by
  have HI0 := Aside0.mk hI
  have HK := Aside0.mk (KeepBut.refl w g none)
  have HL := Aside0.mk hB.size
  clear hI
  have HW0 := Aside0.mk hB.size
  have HB := Aside0.mk hB
  clear hB
  have H : (if s0_1 = 0 then (if a1 > (s0_0.size : Int) then (some ((⟨#[]⟩ : ByteArray), false, s0_0, 2)) else (if 0 ≤ a1 then (if a1 ≤ (s0_0.size : Int) then (some (s0_0.extract 0 (a1 : Int).toNat, true, s0_0.extract (a1 : Int).toNat s0_0.size, s0_1)) else (none)) else (none))) else (some ((⟨#[]⟩ : ByteArray), false, s0_0, s0_1))) = some (r1, r2, r3, r4) := h
  clear h
  by_cases c3 : s0_1 = 0
  · rw [if_pos c3] at H
    have c3b0 : (s0_1 == 0) = true := beq_iff_eq.mpr c3
    have c3b1 : (s0_1 != 0) = false := bne_eq_false_iff_eq.mpr c3
    clear c3
    by_cases c4 : a1 > (s0_0.size : Int)
    · rw [if_pos c4] at H
      have c4b0 : decide ((s0_0.size : Int) < a1) = true := decide_eq_true c4
      clear c4
      simp only [Option.some.injEq, Prod.mk.injEq] at H
      obtain ⟨rfl, rfl, rfl, rfl⟩ := H
      obtain ⟨HGz5, hgz5⟩ := HI0.out
      have hcz5_0 := cellS84_0 HGz5
      have hcz5_1 := cellS84_1 HGz5
      have hfz5_0 := blk_frozen HGz5 0
      have hfz5_1 := blk_frozen HGz5 1
      clear HGz5 hgz5
      go_enter Tryd.func62, Tryd.ntmps62
      go_wp2
      go_ret2
      exact ⟨by first | (with_reducible rfl) | (simp only [isEmpty_bne, Bool.not_not] <;> with_reducible rfl) | (simp [errW_none, errW_some] <;> with_reducible rfl) | (simp only [isEmpty_bne, Bool.not_not] <;> rfl) | rfl | (simp [errW_none, errW_some] <;> rfl) | (simp [*, errW_none, errW_some] <;> rfl), by repeat (first | (with_reducible first | exact HI0.out | apply IsS84.alloc | apply IsS84.drewN | apply IsS84.drew | apply IsS84.set_0 | apply IsS84.set_1) | exact HI0.out), by repeat (first | (with_reducible first | exact HB.out | apply below_alloc | apply pw_below_drewN | apply below_drew1 | refine below_set ?_ (IsS84.ge HI0.out)) | exact HB.out), by repeat (first | (with_reducible first | exact HK.out | apply KeepBut.set_ | apply keep_drewN | apply keep_drew | apply keep_alloc) | exact HK.out)⟩
    · rw [if_neg c4] at H
      have c4b0 : decide ((s0_0.size : Int) < a1) = false := decide_eq_false c4
      clear c4
      by_cases c6 : 0 ≤ a1
      · rw [if_pos c6] at H
        have c6b0 := eq_true c6
        have c6b1 : decide (0 ≤ a1) = true := decide_eq_true c6
        clear c6
        by_cases c7 : a1 ≤ (s0_0.size : Int)
        · rw [if_pos c7] at H
          have c7b0 := eq_true c7
          have c7b1 : decide (a1 ≤ (s0_0.size : Int)) = true := decide_eq_true c7
          clear c7
          have c8b0 := eq_true (of_decide_eq_true (by first | (with_reducible assumption) | assumption) : 0 ≤ a1)
          have c9b0 := eq_true (of_decide_eq_true (by first | (with_reducible assumption) | assumption) : a1 ≤ (s0_0.size : Int))
          simp only [Option.some.injEq, Prod.mk.injEq] at H
          obtain ⟨rfl, rfl, rfl, rfl⟩ := H
          obtain ⟨HGz10, hgz10⟩ := HI0.out
          have hcz10_0 := cellS84_0 HGz10
          have hcz10_1 := cellS84_1 HGz10
          have hfz10_0 := blk_frozen HGz10 0
          have hfz10_1 := blk_frozen HGz10 1
          clear HGz10 hgz10
          go_enter Tryd.func62, Tryd.ntmps62
          go_wp2
          go_ret2
          exact ⟨by first | (with_reducible rfl) | (simp only [isEmpty_bne, Bool.not_not] <;> with_reducible rfl) | (simp [errW_none, errW_some] <;> with_reducible rfl) | (simp only [isEmpty_bne, Bool.not_not] <;> rfl) | rfl | (simp [errW_none, errW_some] <;> rfl) | (simp [*, errW_none, errW_some] <;> rfl), by repeat (first | (with_reducible first | exact HI0.out | apply IsS84.alloc | apply IsS84.drewN | apply IsS84.drew | apply IsS84.set_0 | apply IsS84.set_1) | exact HI0.out), by repeat (first | (with_reducible first | exact HB.out | apply below_alloc | apply pw_below_drewN | apply below_drew1 | refine below_set ?_ (IsS84.ge HI0.out)) | exact HB.out), by repeat (first | (with_reducible first | exact HK.out | apply KeepBut.set_ | apply keep_drewN | apply keep_drew | apply keep_alloc) | exact HK.out)⟩
        · rw [if_neg c7] at H
          exact absurd H (by simp)
      · rw [if_neg c6] at H
        exact absurd H (by simp)
  · rw [if_neg c3] at H
    have c3b0 : (s0_1 == 0) = false := beq_eq_false_iff_ne.mpr c3
    have c3b1 : (s0_1 != 0) = true := bne_iff_ne.mpr c3
    simp only [Option.some.injEq, Prod.mk.injEq] at H
    obtain ⟨rfl, rfl, rfl, rfl⟩ := H
    obtain ⟨HGz11, hgz11⟩ := HI0.out
    have hcz11_0 := cellS84_0 HGz11
    have hcz11_1 := cellS84_1 HGz11
    have hfz11_0 := blk_frozen HGz11 0
    have hfz11_1 := blk_frozen HGz11 1
    clear HGz11 hgz11
    go_enter Tryd.func62, Tryd.ntmps62
    go_wp2
    go_ret2
    exact ⟨by first | (with_reducible rfl) | (simp only [isEmpty_bne, Bool.not_not] <;> with_reducible rfl) | (simp [errW_none, errW_some] <;> with_reducible rfl) | (simp only [isEmpty_bne, Bool.not_not] <;> rfl) | rfl | (simp [errW_none, errW_some] <;> rfl) | (simp [*, errW_none, errW_some] <;> rfl), by repeat (first | (with_reducible first | exact HI0.out | apply IsS84.alloc | apply IsS84.drewN | apply IsS84.drew | apply IsS84.set_0 | apply IsS84.set_1) | exact HI0.out), by repeat (first | (with_reducible first | exact HB.out | apply below_alloc | apply pw_below_drewN | apply below_drew1 | refine below_set ?_ (IsS84.ge HI0.out)) | exact HB.out), by repeat (first | (with_reducible first | exact HK.out | apply KeepBut.set_ | apply keep_drewN | apply keep_drew | apply keep_alloc) | exact HK.out)⟩

/-! ### pack_Reader_Num: function 43 -/
def pack_Reader_Num.f (s0_0 : ByteArray) (s0_1 : Int) (a1 : Int) : Option (Int × ByteArray × Int) := (pack_wide.f a1).bind fun k => (pack_Reader_take.f s0_0 s0_1 k).bind fun t => some (beNum t.1.data.toList, t.2.2.1, t.2.2.2)
theorem pack_wide.bd {a k : Int} (h : pack_wide.f a = some k) : 1 ≤ k ∧ k ≤ 8 := by
  simp only [pack_wide.f, Option.some.injEq] at h; subst h; unfold mx mn; (repeat' split) <;> omega
theorem pack_Reader_take.bd {s : ByteArray} {e k : Int} {t1 : ByteArray} {t2 : Bool} {t3 : ByteArray} {t4 : Int} (h : pack_Reader_take.f s e k = some (t1, t2, t3, t4)) : (t1.size : Int) ≤ k ∨ t1.size = 0 := by
  unfold pack_Reader_take.f at h
  (repeat' split at h) <;> simp only [Option.some.injEq, Prod.mk.injEq, reduceCtorEq] at h <;> (obtain ⟨rfl, rfl, rfl, rfl⟩ := h)
  all_goals first
    | (right; rfl)
    | (left; rw [ByteArray.size_extract]; omega)
set_option maxHeartbeats 4000000 in
set_option maxRecDepth 100000 in
theorem pack_Reader_Num.calls (g : Nat) (s0_0 : ByteArray) (s0_1 : Int) (a1 : Int) (r1 : Int) (r2 : ByteArray) (r3 : Int) (w0 w : World) (hI : IsS84 w0 w g s0_0 s0_1) (hB : Below w0.heap.size w0 w) (h : pack_Reader_Num.f s0_0 s0_1 a1 = some (r1, r2, r3)) :
    Calls Tryd.prog 43 #[.pointer (some ⟨g, 0, none⟩), .int .i64 a1] w fun e w' => e = .returned (.int .u64 r1) ∧ IsS84 w0 w' g r2 r3 ∧ Below w0.heap.size w0 w' ∧ KeepBut w w' g none := by
  unfold pack_Reader_Num.f at h
  obtain ⟨k, hk, h⟩ := Option.bind_eq_some_iff.1 h
  obtain ⟨⟨t1, t2, t3, t4⟩, ht, h⟩ := Option.bind_eq_some_iff.1 h
  simp only [Option.some.injEq, Prod.mk.injEq] at h
  obtain ⟨rfl, rfl, rfl⟩ := h
  have hcv := fun W : World => Lib.run_convert_string_bytes (P := Tryd.prog) W 9 58 5 t1 Tryd.underlying9 Tryd.underlying58 Tryd.underlying5
  have hsz : t1.size ≤ 8 := by
    have := pack_wide.bd hk
    rcases pack_Reader_take.bd ht with h | h <;> omega
  have HK := Aside0.mk hk
  have HT := Aside0.mk ht
  clear hk ht
  go_enter Tryd.func43, Tryd.ntmps43
  go_wp2_with (first | (go_at_call 58; refine (pack_wide.calls a1 k _ HK.out).mono ?_; rintro e w1 ⟨rfl, hb1⟩) | (go_at_call 62; refine (pack_Reader_take.calls g s0_0 s0_1 k t1 t2 t3 t4 w0 _ (hI.below hb1) (below_step hB hb1) HT.out).mono ?_; rintro e w2 ⟨rfl, hI2, hB2, hK2⟩))
  have hbw : Below w2.heap.size w2 (Lib.bytesWorld w2 5 t1) := bytesWorld_below w2 5 t1
  have HI3 := Aside0.mk (hI2.below hbw)
  have HB3 := Aside0.mk (below_step hB2 hbw)
  have HK3 := Aside0.mk (KeepBut.trans (KeepBut.of_below hb1 g none) (KeepBut.trans hK2 (KeepBut.of_below hbw g none) (.inl rfl)) (.inl rfl))
  clear hI2 hB2 hK2 hbw hb1 hI hB HT HK hcv
  go_loop [7, 20] (fun n i => ∃ j : Nat, j ≤ t1.size ∧ i = .int .i64 j ∧ n = .int .u64 (beNum (t1.data.toList.take j))) (fun _ i => t1.size - (intOf i).toNat)
  case atStart => exact ⟨0, Nat.zero_le _, rfl, rfl⟩
  case round =>
    obtain ⟨j, hj, rfl, rfl⟩ := hrel
    by_cases hlt : j < t1.size
    · have hc := Lib.bytesWorld_cell w2 5 t1 j hlt
      have hb := beNum_bd (t1.data.toList.take j)
      have Hnx := Lib.hid (show beStep (beNum (t1.data.toList.take j)) t1[j] = beNum (t1.data.toList.take (j + 1)) by rw [take_succ_get t1 j hlt, beNum_snoc])
      go_wp2
      go_round
      case rel => exact ⟨j + 1, by omega, by go_num, by rw [← Hnx.out, ← or_byte_w]; rfl⟩
      case measure => simp [intOf]; omega
    · have hje : j = t1.size := by omega
      subst hje
      go_wp2
      go_ret
      refine ⟨?_, HI3.out, HB3.out, HK3.out⟩
      have : t1.data.toList.take t1.size = t1.data.toList := List.take_of_length_le (by rw [← Lib.size_eq]; exact Nat.le_refl _)
      rw [this]; rfl

/-! ### pack_Reader_Err: function 60 -/
def pack_Reader_Err.f (s0_0 : ByteArray) (s0_1 : Int) : Option (Int × ByteArray × Int) := some (s0_1, s0_0, s0_1)
set_option maxHeartbeats 8000000 in
set_option maxRecDepth 100000 in
theorem pack_Reader_Err.calls (g : Nat) (s0_0 : ByteArray) (s0_1 : Int) (r1 : Int) (r2 : ByteArray) (r3 : Int) (w0 w : World) (hI : IsS84 w0 w g s0_0 s0_1) (hB : Below w0.heap.size w0 w) (h : pack_Reader_Err.f s0_0 s0_1 = some (r1, r2, r3)) :
    Calls Tryd.prog 60 #[.pointer (some ⟨g, 0, none⟩)] w fun e w' => e = .returned (.int .i64 r1) ∧ IsS84 w0 w' g r2 r3 ∧ Below w0.heap.size w0 w' ∧ KeepBut w w' g none := by
  have HI0 := Aside0.mk hI
  have HK := Aside0.mk (KeepBut.refl w g none)
  have HL := Aside0.mk hB.size
  clear hI
  have HW0 := Aside0.mk hB.size
  have HB := Aside0.mk hB
  clear hB
  have H : (some (s0_1, s0_0, s0_1)) = some (r1, r2, r3) := h
  clear h
  simp only [Option.some.injEq, Prod.mk.injEq] at H
  obtain ⟨rfl, rfl, rfl⟩ := H
  obtain ⟨HGz2, hgz2⟩ := HI0.out
  have hcz2_0 := cellS84_0 HGz2
  have hcz2_1 := cellS84_1 HGz2
  have hfz2_0 := blk_frozen HGz2 0
  have hfz2_1 := blk_frozen HGz2 1
  clear HGz2 hgz2
  go_enter Tryd.func60, Tryd.ntmps60
  go_wp2
  go_ret
  exact ⟨by first | (with_reducible rfl) | (simp only [isEmpty_bne, Bool.not_not] <;> with_reducible rfl) | (simp [errW_none, errW_some] <;> with_reducible rfl) | (simp only [isEmpty_bne, Bool.not_not] <;> rfl) | rfl | (simp [errW_none, errW_some] <;> rfl) | (simp [*, errW_none, errW_some] <;> rfl), by repeat (first | (with_reducible first | exact HI0.out | apply IsS84.alloc | apply IsS84.drewN | apply IsS84.drew | apply IsS84.set_0 | apply IsS84.set_1) | exact HI0.out), by repeat (first | (with_reducible first | exact HB.out | apply below_alloc | apply pw_below_drewN | apply below_drew1 | refine below_set ?_ (IsS84.ge HI0.out)) | exact HB.out), by repeat (first | (with_reducible first | exact HK.out | apply KeepBut.set_ | apply keep_drewN | apply keep_drew | apply keep_alloc) | exact HK.out)⟩

/-! ### keys_text: function 61 -/
/-- the text that bytes begin with: what it is, what is behind it, the error (the Bool: a 0 was just read) -/
def textS : Bool → List UInt8 → List UInt8 → List UInt8 × List UInt8 × Int
  | _, [], _ => ([], [], 2)
  | false, x :: r, acc => if x = 0 then textS true r acc else textS false r (acc ++ [x])
  | true, c :: r, acc => if c = 1 then (acc, r, 0) else if c = 255 then textS false r (acc ++ [0]) else ([], [], 5)
theorem textS_head : ∀ (a : List UInt8) (r acc : List UInt8), Lib.countByte a 0 = 0 → textS false (a ++ r) acc = textS false r (acc ++ a) := by
  intro a
  induction a with
  | nil => intro r acc _; simp
  | cons x a ih =>
    intro r acc h
    by_cases e : x = 0
    · subst e; simp [Lib.countByte] at h
    · have hb : (x == 0) = false := beq_eq_false_iff_ne.2 e
      simp only [List.cons_append, textS, if_neg e]
      rw [ih _ _ (by simpa [Lib.countByte, List.count_cons, hb] using h)]
      simp
theorem textS_none (a acc : List UInt8) (h : Lib.countByte a 0 = 0) : textS false a acc = ([], [], 2) := by
  have := textS_head a [] acc h
  rw [List.append_nil] at this
  rw [this]; rfl
theorem bt_nat (s : ByteArray) (i : Nat) (c : UInt8) (r : List UInt8) (h : s.data.toList.drop i = c :: r) : i < s.size ∧ bt s (i : Int) = (c.toNat : Int) ∧ s.data.toList.drop (i + 1) = r := by
  have hi : i < s.size := by
    rw [Lib.size_eq]
    rcases Nat.lt_or_ge i s.data.toList.length with h2 | h2
    · exact h2
    · rw [List.drop_eq_nil_of_le h2] at h; cases h
  have hi' : i < s.data.toList.length := by rw [← Lib.size_eq]; exact hi
  rw [List.drop_eq_getElem_cons hi'] at h
  injection h with h1 h2
  refine ⟨hi, ?_, h2⟩
  have : i = (i : Int).toNat := by omega
  unfold bt
  rw [dif_pos (by rw [Int.toNat_natCast]; exact hi)]
  simp only [Int.toNat_natCast]
  rw [← h1]; rfl
theorem bi_snoc (l : List UInt8) (c : UInt8) : bi l ++ [(c.toNat : Int)] = bi (l ++ [c]) := by simp [bi]
theorem u8_eq (c : UInt8) (n : Nat) (h : n < 256) : ((c.toNat : Int) = (n : Int)) ↔ c = UInt8.ofNat n := by
  constructor
  · intro h2
    apply UInt8.toNat_inj.1
    rw [UInt8.toNat_ofNat', Nat.mod_eq_of_lt h]; omega
  · rintro rfl; rw [UInt8.toNat_ofNat', Nat.mod_eq_of_lt h]
/-- what the document's text tells: the text, how many bytes it takes, the error -/
def textN (l : List UInt8) : List UInt8 × Nat × Int :=
  ((textS false l []).1, if (textS false l []).2.2 = 0 then l.length - (textS false l []).2.1.length else 0, (textS false l []).2.2)
theorem textS_rest : ∀ (l : List UInt8) (b : Bool) (acc : List UInt8), (textS b l acc).2.1.length ≤ l.length ∧ ((textS b l acc).2.2 = 0 → (textS b l acc).2.1 = l.drop (l.length - (textS b l acc).2.1.length) ∧ (textS b l acc).2.1.length < l.length) := by
  intro l
  induction l with
  | nil => intro b acc; cases b <;> simp [textS]
  | cons c r ih =>
    have key : ∀ b acc, (textS b r acc).2.1.length ≤ (c :: r).length ∧ ((textS b r acc).2.2 = 0 → (textS b r acc).2.1 = (c :: r).drop ((c :: r).length - (textS b r acc).2.1.length) ∧ (textS b r acc).2.1.length < (c :: r).length) := by
      intro b acc
      obtain ⟨h1, h2⟩ := ih b acc
      refine ⟨by rw [List.length_cons]; omega, fun h => ?_⟩
      obtain ⟨h3, h4⟩ := h2 h
      refine ⟨?_, by rw [List.length_cons]; omega⟩
      rw [List.length_cons, show r.length + 1 - (textS b r acc).2.1.length = (r.length - (textS b r acc).2.1.length) + 1 by omega, List.drop_succ_cons]
      exact h3
    intro b acc
    cases b with
    | false =>
      simp only [textS]
      split
      · exact key _ _
      · exact key _ _
    | true =>
      simp only [textS]
      split
      · refine ⟨by simp, fun _ => ⟨?_, by simp⟩⟩
        show r = (c :: r).drop ((c :: r).length - r.length)
        rw [List.length_cons, show r.length + 1 - r.length = 0 + 1 by omega, List.drop_succ_cons]; rfl
      · split
        · exact key _ _
        · refine ⟨by simp, fun h => absurd h (by decide)⟩
theorem textS_err : ∀ (l : List UInt8) (b : Bool) (acc : List UInt8), (textS b l acc).2.2 ≠ 0 → (textS b l acc).1 = [] := by
  intro l
  induction l with
  | nil => intro b acc; cases b <;> simp [textS]
  | cons c r ih =>
    intro b acc
    cases b with
    | false => simp only [textS]; split <;> exact ih _ _
    | true =>
      simp only [textS]
      split
      · intro h; exact absurd rfl h
      · split
        · exact ih _ _
        · intro _; rfl
/-- which tuple bytes are: the values so far, the bytes to come -/
def rdS : Nat → List UInt8 → List S29 → List S29 × Int
  | 0, _, acc => (acc, 0)
  | _ + 1, [], acc => (acc, 0)
  | k + 1, x :: r, acc =>
    if x = 1 then (if r.length < 8 then ([], 2) else rdS k (r.drop 8) (acc ++ [⟨1, wrap64 (IntKind.u64.wrap (beNum (r.take 8) - 9223372036854775808)), ⟨#[]⟩⟩]))
    else if x = 2 then (if (textS false r []).2.2 = 0 then rdS k (textS false r []).2.1 (acc ++ [⟨2, 0, ⟨(textS false r []).1.toArray⟩⟩]) else ([], (textS false r []).2.2))
    else ([], 5)
theorem rdS_fuel : ∀ (k j : Nat) (l : List UInt8) (acc : List S29), l.length ≤ k → l.length ≤ j → rdS k l acc = rdS j l acc := by
  intro k
  induction k with
  | zero =>
    intro j l acc h _
    obtain rfl : l = [] := List.eq_nil_of_length_eq_zero (by omega)
    cases j <;> rfl
  | succ k ih =>
    intro j l acc h hj
    cases l with
    | nil => cases j <;> rfl
    | cons x r =>
      rw [List.length_cons] at h hj
      cases j with
      | zero => omega
      | succ j =>
        simp only [rdS]
        split
        · split
          · rfl
          · exact ih j _ _ (by rw [List.length_drop]; omega) (by rw [List.length_drop]; omega)
        · split
          · split
            · have := textS_rest r false []
              exact ih j _ _ (by omega) (by omega)
            · rfl
          · rfl
def readL (s : ByteArray) : List S29 × Int := rdS s.size s.data.toList []
def strLen : Value → Nat | .string s => s.size | _ => 0
def keys_text.f (a0 : ByteArray) : Option (ByteArray × ByteArray × Int) := if a0.size ≤ 140737488355328 then some (⟨(textS false a0.data.toList []).1.toArray⟩, ⟨(textS false a0.data.toList []).2.1.toArray⟩, (textS false a0.data.toList []).2.2) else none
set_option maxHeartbeats 8000000 in
set_option maxRecDepth 100000 in
theorem keys_text.calls (a0 : ByteArray) (r1 : ByteArray) (r2 : ByteArray) (r3 : Int) (w : World) (h : keys_text.f a0 = some (r1, r2, r3)) :
    Calls Tryd.prog 61 #[.string a0] w fun e w' => e = .returned (.tuple #[.string r1, .string r2, .int .i64 r3]) ∧ Below w.heap.size w w' := by
  unfold keys_text.f at h
  split at h
  case isFalse => cases h
  rename_i hs0
  simp only [Option.some.injEq, Prod.mk.injEq] at h
  obtain ⟨rfl, rfl, rfl⟩ := h
  go_enter Tryd.func61, Tryd.ntmps61
  go_wp2
  have H0 := Lib.hid (Lib.fresh_isBuilder 99 5 w)
  have HB0 := Lib.hid ((Below.refl w.heap.size w).alloc (Nat.le_refl _) (.cells #[.pointer none, .slice none 0 0] 99))
  go_loopw [0] (fun s wx => ∃ (l : ByteArray) (acc : List UInt8), s = .string l ∧ Hid (Lib.IsBuilder 99 5 w.heap.size w.heap.size (Lib.byteCells acc) wx) ∧ Hid (Below w.heap.size w wx) ∧
    Hid (textS false l.data.toList acc = textS false a0.data.toList []) ∧ acc.length + l.size ≤ a0.size) (fun s _ => strLen s)
  case atStart => exact ⟨a0, [], rfl, H0, HB0, Lib.hid rfl, by simp⟩
  case round =>
    obtain ⟨l, acc, rfl, HI, HB, HT, hsz⟩ := hrel
    have hBw : w.heap.size ≤ wr.heap.size := HB.out.size
    have hll : l.data.toList.length = l.size := (Lib.size_eq l).symm
    rcases cut0 l.data.toList with ⟨hix, hc0⟩ | ⟨i, hix, hil, hi0, hsp⟩
    · have hfin : textS false a0.data.toList [] = ([], [], 2) := by rw [← HT.out]; exact textS_none _ _ hc0
      have HIX := Lib.hid hix
      have HF := Lib.hid hfin
      clear hix hfin
      go_wp2_with (go_at_call 72; refine (cut_none Tryd.lays145 l _ HIX.out).mono ?_; rintro e w1 ⟨rfl, rfl⟩)
      go_ret3
      exact ⟨by rw [HF.out]; rfl, HB.out⟩
    · have HIX := Lib.hid hix
      have hi1 : i + 1 ≤ l.size := by omega
      obtain ⟨rs, hrs⟩ : ∃ rs, l.extract (i + 1) l.size = rs := ⟨_, rfl⟩
      have hrl : rs.data.toList = l.data.toList.drop (i + 1) := by rw [← hrs, Lib.extract_to_end]
      have hrn : rs.size = l.size - (i + 1) := by rw [← hrs, ByteArray.size_extract]; omega
      have hT1 : textS false l.data.toList acc = textS true rs.data.toList (acc ++ l.data.toList.take i) := by
        rw [hrl]; conv => lhs; rw [hsp]
        rw [textS_head _ _ _ hi0]; rfl
      have HRS := Lib.hid hrs
      have HT1 := Lib.hid (hT1.symm.trans HT.out)
      clear hix hrs hsp hT1 hrl
      by_cases hr0 : rs.size = 0
      · have he : rs.data.toList = [] := List.eq_nil_of_length_eq_zero (by rw [← Lib.size_eq]; exact hr0)
        have HF : Hid (textS false a0.data.toList [] = ([], [], 2)) := by rw [← HT1.out, he]; exact rfl
        have he1 : (rs.toList == ([] : List UInt8)) = true := by rw [Lib.toList_data, he]; rfl
        have he2 : rs.toList.isEmpty = true := by rw [Lib.toList_data, he]; rfl
        have he3 : rs.toList = [] := by rw [Lib.toList_data, he]
        clear he
        go_wp2_with (go_at_call 72; refine (cut_some Tryd.lays145 l _ i HIX.out hi1 (by omega)).mono ?_; rintro e w1 ⟨rfl, rfl⟩; rw [HRS.out])
        go_ret3
        exact ⟨by rw [HF.out]; rfl, HB.out.drew⟩
      · obtain ⟨c, r2, hcr⟩ : ∃ c r2, rs.data.toList = c :: r2 := by
          cases h : rs.data.toList with
          | nil => exact absurd (by rw [Lib.size_eq, h]; rfl) hr0
          | cons c r2 => exact ⟨c, r2, rfl⟩
        have he2 : rs.toList.isEmpty = false := by rw [Lib.toList_data, hcr]; rfl
        have he1 : (rs.toList == ([] : List UInt8)) = false := by rw [Lib.toList_data, hcr]; rfl
        have he3 : (rs.toList = []) = False := by rw [Lib.toList_data, hcr]; simp
        have q0 : 0 < rs.size := by omega
        have hx : ∀ h : 0 < rs.size, ((rs[0]'h).toNat : Int) = (c.toNat : Int) := by
          intro h
          have h1 : rs[0] = rs.data.toList[0]'(by rw [hcr]; simp) := rfl
          rw [h1]; simp only [hcr, List.getElem_cons_zero]
        have q1 : (1 : Int) ≤ (rs.size : Int) := by omega
        have hr2 : (rs.extract 1 rs.size).data.toList = r2 := by rw [Lib.extract_to_end, hcr]; rfl
        have hn2 : (rs.extract 1 rs.size).size = rs.size - 1 := by rw [ByteArray.size_extract]; omega
        have HR2 := Lib.hid hr2
        have HN2 := Lib.hid hn2
        have hrn' : rs.size ≤ l.size - (i + 1) := by omega
        have hT2 : textS true (c :: r2) (acc ++ l.data.toList.take i) = textS false a0.data.toList [] := by rw [← hcr]; exact HT1.out
        have hcells : Lib.byteCells acc ++ Lib.strCells (l.extract 0 i) = Lib.byteCells (acc ++ l.data.toList.take i) := by
          rw [Lib.strCells_eq, Lib.extract_data, ← Lib.byteCells_append]; rfl
        have HC := Lib.hid hcells
        have HT2 := Lib.hid hT2
        have hlen1 : (acc ++ l.data.toList.take i).length = acc.length + i := by rw [List.length_append, List.length_take, hll]; omega
        have HL1 := Lib.hid hlen1
        clear hr2 hn2 hrn hT2 hcells hlen1 HT1 HT hcr hr0
        by_cases hc1 : c = 1
        · have hb1 : ((c.toNat : Int) == 1) = true := by subst hc1; rfl
          have HF : Hid (textS false a0.data.toList [] = (acc ++ l.data.toList.take i, r2, 0)) := by rw [← HT2.out, hc1]; exact rfl
          clear hc1
          go_wp2_with (go_at_call 72; refine (cut_some Tryd.lays145 l _ i HIX.out hi1 (by omega)).mono ?_; rintro e w1 ⟨rfl, rfl⟩; rw [HRS.out])
          refine (Any.Builder_WriteString { Tryd.lays155 with } Tryd.Builder_Extra_155 w.heap.size w.heap.size _ (l.extract 0 i) wr.drew HI.out (by rw [Lib.byteCells_length, ByteArray.size_extract]; omega) hBw).mono ?_
          rintro e w3 ⟨rfl, h3, hb3⟩
          rw [HC.out] at h3
          have H3 := Lib.hid (Or.inr h3 : Lib.IsBuilder 99 5 w.heap.size w.heap.size _ w3)
          have Hb3 := Lib.hid (HB.out.trans ((Below.refl w.heap.size wr).drew.trans hb3))
          have hBw3 : w.heap.size ≤ w3.heap.size := Hb3.out.size
          clear h3 hb3
          go_wp2_with fail
          refine (Any.Builder_String_any { Tryd.lays155 with } Tryd.Builder_Extra_155 w.heap.size w.heap.size _ w3 H3.out hBw3).mono ?_
          rintro e w5 ⟨rfl, hb5⟩
          have Hb5 := Lib.hid (Hb3.out.trans hb5)
          clear hb5
          go_wp2
          go_ret3
          exact ⟨by rw [HF.out, ← HR2.out]; rfl, Hb5.out⟩
        · have hb1 : ((c.toNat : Int) == 1) = false := by
            apply beq_eq_false_iff_ne.2; intro h; exact hc1 (UInt8.toNat_inj.1 (by exact_mod_cast h))
          by_cases hc2 : c = 255
          · have hb2 : ((c.toNat : Int) == 255) = true := by subst hc2; rfl
            have HF : Hid (textS false r2 (acc ++ l.data.toList.take i ++ [0]) = textS false a0.data.toList []) := by rw [← HT2.out, hc2]; exact rfl
            clear hc1 hc2
            go_wp2_with (go_at_call 72; refine (cut_some Tryd.lays145 l _ i HIX.out hi1 (by omega)).mono ?_; rintro e w1 ⟨rfl, rfl⟩; rw [HRS.out])
            refine (Any.Builder_WriteString { Tryd.lays155 with } Tryd.Builder_Extra_155 w.heap.size w.heap.size _ (l.extract 0 i) wr.drew HI.out (by rw [Lib.byteCells_length, ByteArray.size_extract]; omega) hBw).mono ?_
            rintro e w3 ⟨rfl, h3, hb3⟩
            rw [HC.out] at h3
            have H3 := Lib.hid (Or.inr h3 : Lib.IsBuilder 99 5 w.heap.size w.heap.size _ w3)
            have Hb3 := Lib.hid (HB.out.trans ((Below.refl w.heap.size wr).drew.trans hb3))
            have hBw3 : w.heap.size ≤ w3.heap.size := Hb3.out.size
            clear h3 hb3
            go_wp2_with fail
            refine (Any.Builder_WriteByte (lays167 Tryd.lays155 75 Tryd.func75) (extra167 Tryd.Builder_Extra_155 _) w.heap.size w.heap.size _ 0 w3 H3.out (by rw [Lib.byteCells_length, HL1.out]; omega) hBw3).mono ?_
            rintro e w4 ⟨rfl, h4, hb4⟩
            rw [show Lib.byteCells (acc ++ l.data.toList.take i) ++ [Value.int .u8 0] = Lib.byteCells (acc ++ l.data.toList.take i ++ [0]) from by simp [Lib.byteCells]] at h4
            have H4 := Lib.hid (Or.inr h4 : Lib.IsBuilder 99 5 w.heap.size w.heap.size _ w4)
            have Hb4 := Lib.hid (Hb3.out.trans hb4)
            clear h4 hb4
            go_wp2
            go_roundw
            case rel => exact ⟨_, _, rfl, H4, Hb4, Lib.hid (by rw [HR2.out]; exact HF.out), by rw [List.length_append, HL1.out, HN2.out]; simp; omega⟩
            case measure => show (rs.extract 1 rs.size).size < l.size; rw [HN2.out]; omega
          · have hb2 : ((c.toNat : Int) == 255) = false := by
              apply beq_eq_false_iff_ne.2; intro h; exact hc2 (UInt8.toNat_inj.1 (by exact_mod_cast h))
            have HF := Lib.hid (show textS false a0.data.toList [] = ([], [], 5) by rw [← HT2.out]; simp only [textS, if_neg hc1, if_neg hc2])
            clear hc1 hc2
            go_wp2_with (go_at_call 72; refine (cut_some Tryd.lays145 l _ i HIX.out hi1 (by omega)).mono ?_; rintro e w1 ⟨rfl, rfl⟩; rw [HRS.out])
            refine (Any.Builder_WriteString { Tryd.lays155 with } Tryd.Builder_Extra_155 w.heap.size w.heap.size _ (l.extract 0 i) wr.drew HI.out (by rw [Lib.byteCells_length, ByteArray.size_extract]; omega) hBw).mono ?_
            rintro e w3 ⟨rfl, h3, hb3⟩
            rw [HC.out] at h3
            have H3 := Lib.hid (Or.inr h3 : Lib.IsBuilder 99 5 w.heap.size w.heap.size _ w3)
            have Hb3 := Lib.hid (HB.out.trans ((Below.refl w.heap.size wr).drew.trans hb3))
            have hBw3 : w.heap.size ≤ w3.heap.size := Hb3.out.size
            clear h3 hb3
            go_wp2
            go_ret3
            exact ⟨by rw [HF.out]; rfl, Hb3.out⟩

end Go.Proofs.YtekaeddagaejiaaDoor.PAll
