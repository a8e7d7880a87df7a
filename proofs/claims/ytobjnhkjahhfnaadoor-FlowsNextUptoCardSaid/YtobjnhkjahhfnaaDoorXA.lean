/- Arguments opened: structs and slices of them, what each value is, how great it is; and what the bulk's bound gives. No conditions. -/
import Derived.Test.YtobjnhkjahhfnaaDoorCards
import Derived.Test.YtobjnhkjahhfnaaDoorPAllx0
import Derived.WalkKit
import Derived.Deep.Slices
import Derived.Deep.Fields
import Derived.ChangeSame
import Derived.OpenShut
import Derived.ShutString
import Derived.ProofKit
namespace Go.Proofs.YtobjnhkjahhfnaaDoor.XA
open Go.ChangeShapes Go.WideShapes Go.Deep Go.RowKit Go.Proofs.YtobjnhkjahhfnaaDoorW.PrintWords Go.Proofs.YtobjnhkjahhfnaaDoor.PAll
set_option linter.unusedVariables false

theorem bulk_le {H : Type} {α : Type} (wt : α → Nat) : ∀ (l : List α) (L : List (DataW H)), l.length = L.length → (∀ (j : Nat) (x : α) (d : DataW H), l[j]? = some x → L[j]? = some d → wt x ≤ Rows.uptoBulk d) → (l.map wt).sum ≤ Rows.uptoBulkAll L := by
  intro l
  induction l with
  | nil => intro L _ _; simp
  | cons x l ih =>
    intro L hl hq
    cases L with
    | nil => simp at hl
    | cons d L =>
      have h0 := hq 0 x d rfl rfl
      have h1 := ih L (by simpa using hl) (fun j y e h1 h2 => hq (j + 1) y e h1 h2)
      rw [List.map_cons, List.sum_cons, Rows.uptoBulkAll]; omega
theorem exists_list {α : Type} : ∀ (n : Nat) (Q : Nat → α → Prop), (∀ i, i < n → ∃ x, Q i x) → ∃ l : List α, l.length = n ∧ ∀ j x, l[j]? = some x → Q j x := by
  intro n
  induction n with
  | zero => intro Q _; exact ⟨[], rfl, fun j x h => by simp at h⟩
  | succ n ih =>
    intro Q h
    obtain ⟨l, hl, hq⟩ := ih Q (fun i hi => h i (by omega))
    obtain ⟨x, hx⟩ := h n (by omega)
    refine ⟨l ++ [x], by simp [hl], fun j y hy => ?_⟩
    rcases Nat.lt_or_ge j l.length with hj | hj
    · rw [List.getElem?_append_left hj] at hy; exact hq j y hy
    · rw [List.getElem?_append_right hj] at hy
      have : j - l.length = 0 := by
        rcases Nat.eq_zero_or_pos (j - l.length) with h0 | h0
        · exact h0
        · rw [List.getElem?_eq_none (by simp; omega)] at hy; cases hy
      rw [this] at hy
      obtain rfl : x = y := by simpa using hy
      obtain rfl : j = n := by omega
      exact hx
theorem lit_int {H : Type} (k : IntKind) (n : Int) : Rows.uptoBulk (DataW.lit (H := H) (.int k n)) = 1 := by simp [Rows.uptoBulk]
theorem lit_bool {H : Type} (b : Bool) : Rows.uptoBulk (DataW.lit (H := H) (.bool b)) = 1 := by simp [Rows.uptoBulk]
theorem lit_str {H : Type} (a : ByteArray) : Rows.uptoBulk (DataW.lit (H := H) (.string a.data.toList)) = a.size + 1 := by
  rw [Lib.size_eq]; simp [Rows.uptoBulk]
theorem one_le {H : Type} (d : DataW H) : 1 ≤ Rows.uptoBulk d := by
  cases d with
  | lit l => cases l <;> simp [Rows.uptoBulk]
  | nil => simp [Rows.uptoBulk]
  | ptr d => simp [Rows.uptoBulk]
  | slice elems spare => simp [Rows.uptoBulk]
  | agg parts => simp [Rows.uptoBulk]
  | iface t d => simp [Rows.uptoBulk]
  | map entries => simp [Rows.uptoBulk]
  | held h => simp [Rows.uptoBulk]
theorem bound {H : Type} {l : List (DataW H)} (hk : Rows.uptoSmall H l = true) : Rows.uptoBulkAll l ≤ 1048576 := by
  simpa [Rows.uptoSmall] using hk
/-- a slice opened: what each element is, by its kind -/
theorem open_sl {H : Type} {enc : TypeId × Value → H} {P : Program} {w : World} {base : Nat} {held : Bool} {α : Type} {t e : TypeId} {fuel : Nat} {cs : List Value} {x : DataW H × List MemPlace} (kE : Kd α) (inE : α → Prop) (wtE : α → Nat)
    (ht : P.underlying t = some (.slice e)) (hC : P.cellsOf e = kE.sz)
    (hE : ∀ (n : Nat) (cs' : List Value) (y : DataW H × List MemPlace), DataW.trod enc P w base (fun _ => true) held n e cs' = some y → ∃ u : α, kE.K w u cs' ∧ inE u ∧ wtE u ≤ Rows.uptoBulk y.1)
    (h : DataW.trod enc P w base (fun _ => true) held fuel t cs = some x) :
    ∃ (A : Option Addr) (c : Nat) (l : List α), cs = [.slice A l.length c] ∧ Kd.C kE w A l.length l ∧ l.length ≤ c ∧ (∀ u ∈ l, inE u) ∧ (l.map wtE).sum + 1 ≤ Rows.uptoBulk x.1 := by
  rcases open_slice ht h with ⟨hcs, hx⟩ | ⟨a, len, cap, m, n, D, Pl, hcs, hb, hl, hm, hmm, hx, hi⟩
  · exact ⟨none, 0, [], hcs, Kd.C_nil _ _, Nat.le_refl _, fun x hx => (List.not_mem_nil hx).elim, by simp only [List.map_nil, List.sum_nil]; exact one_le _⟩
  · rw [if_pos rfl] at hmm
    obtain rfl := hmm.symm
    obtain ⟨l, hll, hq⟩ := exists_list len (fun i (u : α) => (∃ cs', kE.K w u cs' ∧ cs'.length = kE.sz ∧ ∀ j v, cs'[j]? = some v → w.cell? (a.add (i * kE.sz + j)) = some v) ∧ inE u ∧ wtE u ≤ Rows.uptoBulk (D i)) (fun i hil => by
      obtain ⟨cs', hc, ht'⟩ := hi i (by omega)
      rw [hC] at hc
      obtain ⟨_, hcl, hat⟩ := World.cells?_some hc
      obtain ⟨u, hu1, hu2, hu3⟩ := hE n cs' _ ht'
      refine ⟨u, ⟨cs', hu1, hcl, fun j v hv => ?_⟩, hu2, hu3⟩
      have hjl : j < kE.sz := by rw [← hcl]; exact (List.getElem?_eq_some_iff.1 hv).1
      rw [← Go.Deep.add_add, hat j hjl, hv])
    have hmx : maxLen = 9223372036854775807 := rfl
    refine ⟨some a, cap, l, by rw [hcs, hll], ⟨rfl, by omega, fun _ => ⟨a, rfl, fun j u hj => ?_⟩⟩, by omega, fun u hu => ?_, ?_⟩
    · obtain ⟨⟨cs', h1, h2, h3⟩, _, _⟩ := hq j u hj
      exact ⟨cs', h2, h1, h3⟩
    · obtain ⟨j, hj⟩ := List.getElem?_of_mem hu
      exact (hq j u hj).2.1
    · obtain rfl := hx
      rw [Rows.uptoBulk]
      have := bulk_le wtE l ((List.range len).map D) (by simp [hll]) (fun j u d h1 h2 => by
        have hj : j < len := by rw [← hll]; exact (List.getElem?_eq_some_iff.1 h1).1
        rw [List.getElem?_map, List.getElem?_range hj] at h2
        obtain rfl : D j = d := by simpa using h2
        exact (hq j u h1).2.2)
      omega
theorem k_int {w : World} {k : IntKind} (n : Int) : (Kd.int k).K w n [.int k n] := rfl
theorem k_str {w : World} (n : ByteArray) : Kd.string.K w n [.string n] := rfl
theorem k_bool {w : World} (n : Bool) : Kd.bool.K w n [.bool n] := rfl
theorem k_slice {w : World} {α : Type} {d : Kd α} {e : Nat} {A : Option Addr} {c : Nat} {l : List α} (hl : l.length ≤ c) (h : Kd.C d w A l.length l) : (Kd.slice e d).K w l [.slice A l.length c] := ⟨A, c, rfl, hl, h⟩

def in24 (x : S24) : Prop := (-9223372036854775808 ≤ x.f0 ∧ x.f0 < 9223372036854775808) ∧ (-9223372036854775808 ≤ x.f1 ∧ x.f1 < 9223372036854775808)
def wt24 (x : S24) : Nat := 1 + 1 + (x.f2.size + 1) + 1
set_option maxRecDepth 100000 in
theorem op24 {H : Type} {enc : TypeId × Value → H} {w : World} {base : Nat} {held : Bool} {fuel : Nat} {cs : List Value} {y : DataW H × List MemPlace} (h : DataW.trod enc Tryd.prog w base (fun _ => true) held fuel 24 cs = some y) : ∃ (x : S24), cs = [.int .i64 x.f0, .int .i64 x.f1, .string x.f2] ∧ in24 x ∧ wt24 x ≤ Rows.uptoBulk y.1 := by
  obtain ⟨ys, n, _, rfl, hlen, hyl, hf⟩ := DataW.trod_struct Tryd.underlying24 h
  rw [show Tryd.prog.cellsOf 24 = 3 from by kernel_rfl] at hlen
  match cs, hlen with
  | [q0, q1, q2], _ =>
    match ys, hyl with
    | [y0, y1, y2], _ =>
      have g0 : DataW.trod enc Tryd.prog w base (fun _ => true) held n 22 [q0] = some y0 := by have g := hf 0 _ rfl; simpa [show Tryd.prog.cellsOf 22 = 1 from by kernel_rfl] using g
      obtain ⟨z0, e0, r0, hw0⟩ := DataW.trod_int (k := .i64) (by kernel_rfl) g0
      have r0_ : (-9223372036854775808 ≤ z0 ∧ z0 < 9223372036854775808) := by
        have h1 : IntKind.min .i64 = -9223372036854775808 := by decide
        have h2 : IntKind.max .i64 = 9223372036854775807 := by decide
        simp [Lit.wf, h1, h2] at hw0; omega
      have u0 : 1 ≤ Rows.uptoBulk y0.1 := by rw [r0]; exact Nat.le_of_eq (lit_int _ _).symm
      simp only [List.cons.injEq, and_true] at e0
      obtain rfl := e0
      have g1 : DataW.trod enc Tryd.prog w base (fun _ => true) held n 2 [q1] = some y1 := by have g := hf 1 _ rfl; simpa [show Tryd.prog.cellsOf 2 = 1 from by kernel_rfl] using g
      obtain ⟨z1, e1, r1, hw1⟩ := DataW.trod_int (k := .i64) (by kernel_rfl) g1
      have r1_ : (-9223372036854775808 ≤ z1 ∧ z1 < 9223372036854775808) := by
        have h1 : IntKind.min .i64 = -9223372036854775808 := by decide
        have h2 : IntKind.max .i64 = 9223372036854775807 := by decide
        simp [Lit.wf, h1, h2] at hw1; omega
      have u1 : 1 ≤ Rows.uptoBulk y1.1 := by rw [r1]; exact Nat.le_of_eq (lit_int _ _).symm
      simp only [List.cons.injEq, and_true] at e1
      obtain rfl := e1
      have g2 : DataW.trod enc Tryd.prog w base (fun _ => true) held n 9 [q2] = some y2 := by have g := hf 2 _ rfl; simpa [show Tryd.prog.cellsOf 9 = 1 from by kernel_rfl] using g
      obtain ⟨z2, e2, r2, _⟩ := DataW.trod_string (by kernel_rfl) g2
      have u2 : z2.size + 1 ≤ Rows.uptoBulk y2.1 := by rw [r2]; exact Nat.le_of_eq (lit_str _).symm
      simp only [List.cons.injEq, and_true] at e2
      obtain rfl := e2
      refine ⟨⟨z0, z1, z2⟩, rfl, ⟨r0_, r1_⟩, ?_⟩
      simp only [List.map_cons, List.map_nil, Rows.uptoBulk, Rows.uptoBulkAll]; unfold wt24; simp only []; omega
theorem kk24 {H : Type} {enc : TypeId × Value → H} {w : World} {base : Nat} {held : Bool} {fuel : Nat} {cs : List Value} {y : DataW H × List MemPlace} (h : DataW.trod enc Tryd.prog w base (fun _ => true) held fuel 24 cs = some y) : ∃ x : S24, k24.K w x cs ∧ in24 x ∧ wt24 x ≤ Rows.uptoBulk y.1 := by
  obtain ⟨x, rfl, h1, h2⟩ := op24 h
  exact ⟨x, k24_mk w x , h1, h2⟩
structure S28 where
  f0 : Int
  f1 : (List S24)
def in28 (x : S28) : Prop := (-9223372036854775808 ≤ x.f0 ∧ x.f0 < 9223372036854775808) ∧ (∀ y ∈ x.f1, in24 y)
def wt28 (x : S28) : Nat := 1 + ((x.f1.map wt24).sum + 1) + 1
set_option maxRecDepth 100000 in
theorem op28 {H : Type} {enc : TypeId × Value → H} {w : World} {base : Nat} {held : Bool} {fuel : Nat} {cs : List Value} {y : DataW H × List MemPlace} (h : DataW.trod enc Tryd.prog w base (fun _ => true) held fuel 28 cs = some y) : ∃ (x : S28) (A1 : Option Addr) (c1 : Nat), cs = [.int .i64 x.f0, .slice A1 x.f1.length c1] ∧ Kd.C k24 w A1 x.f1.length x.f1 ∧ x.f1.length ≤ c1 ∧ in28 x ∧ wt28 x ≤ Rows.uptoBulk y.1 := by
  obtain ⟨ys, n, _, rfl, hlen, hyl, hf⟩ := DataW.trod_struct Tryd.underlying28 h
  rw [show Tryd.prog.cellsOf 28 = 2 from by kernel_rfl] at hlen
  match cs, hlen with
  | [q0, q1], _ =>
    match ys, hyl with
    | [y0, y1], _ =>
      have g0 : DataW.trod enc Tryd.prog w base (fun _ => true) held n 3 [q0] = some y0 := by have g := hf 0 _ rfl; simpa [show Tryd.prog.cellsOf 3 = 1 from by kernel_rfl] using g
      obtain ⟨z0, e0, r0, hw0⟩ := DataW.trod_int (k := .i64) (by kernel_rfl) g0
      have r0_ : (-9223372036854775808 ≤ z0 ∧ z0 < 9223372036854775808) := by
        have h1 : IntKind.min .i64 = -9223372036854775808 := by decide
        have h2 : IntKind.max .i64 = 9223372036854775807 := by decide
        simp [Lit.wf, h1, h2] at hw0; omega
      have u0 : 1 ≤ Rows.uptoBulk y0.1 := by rw [r0]; exact Nat.le_of_eq (lit_int _ _).symm
      simp only [List.cons.injEq, and_true] at e0
      obtain rfl := e0
      have g1 : DataW.trod enc Tryd.prog w base (fun _ => true) held n 26 [q1] = some y1 := by have g := hf 1 _ rfl; simpa [show Tryd.prog.cellsOf 26 = 1 from by kernel_rfl] using g
      obtain ⟨B1, d1, z1, e1, hC1, hc1, r1_, u1⟩ := open_sl k24 in24 wt24 (by kernel_rfl) (by kernel_rfl) (fun _ _ _ h' => kk24 h') g1
      simp only [List.cons.injEq, and_true] at e1
      obtain rfl := e1
      refine ⟨⟨z0, z1⟩, B1, d1, rfl, hC1, hc1, ⟨r0_, r1_⟩, ?_⟩
      simp only [List.map_cons, List.map_nil, Rows.uptoBulk, Rows.uptoBulkAll]; unfold wt28; simp only []; omega
structure S30 where
  f0 : Int
  f1 : Int
  f2 : S24
  f3 : Int
  f4 : Int
  f5 : Int
  f6 : S24
  f7 : S28
  f8 : Bool
def in30 (x : S30) : Prop := (-9223372036854775808 ≤ x.f0 ∧ x.f0 < 9223372036854775808) ∧ (-9223372036854775808 ≤ x.f1 ∧ x.f1 < 9223372036854775808) ∧ in24 x.f2 ∧ (-9223372036854775808 ≤ x.f3 ∧ x.f3 < 9223372036854775808) ∧ (-9223372036854775808 ≤ x.f4 ∧ x.f4 < 9223372036854775808) ∧ (-9223372036854775808 ≤ x.f5 ∧ x.f5 < 9223372036854775808) ∧ in24 x.f6 ∧ in28 x.f7
def wt30 (x : S30) : Nat := 1 + 1 + wt24 x.f2 + 1 + 1 + 1 + wt24 x.f6 + wt28 x.f7 + 1 + 1
set_option maxRecDepth 100000 in
theorem op30 {H : Type} {enc : TypeId × Value → H} {w : World} {base : Nat} {held : Bool} {fuel : Nat} {cs : List Value} {y : DataW H × List MemPlace} (h : DataW.trod enc Tryd.prog w base (fun _ => true) held fuel 30 cs = some y) : ∃ (x : S30) (A12 : Option Addr) (c12 : Nat), cs = [.int .i64 x.f0, .int .i64 x.f1, .int .i64 x.f2.f0, .int .i64 x.f2.f1, .string x.f2.f2, .int .i64 x.f3, .int .i64 x.f4, .int .i64 x.f5, .int .i64 x.f6.f0, .int .i64 x.f6.f1, .string x.f6.f2, .int .i64 x.f7.f0, .slice A12 x.f7.f1.length c12, .bool x.f8] ∧ Kd.C k24 w A12 x.f7.f1.length x.f7.f1 ∧ x.f7.f1.length ≤ c12 ∧ in30 x ∧ wt30 x ≤ Rows.uptoBulk y.1 := by
  obtain ⟨ys, n, _, rfl, hlen, hyl, hf⟩ := DataW.trod_struct Tryd.underlying30 h
  rw [show Tryd.prog.cellsOf 30 = 14 from by kernel_rfl] at hlen
  match cs, hlen with
  | [q0, q1, q2, q3, q4, q5, q6, q7, q8, q9, q10, q11, q12, q13], _ =>
    match ys, hyl with
    | [y0, y1, y2, y3, y4, y5, y6, y7, y8], _ =>
      have g0 : DataW.trod enc Tryd.prog w base (fun _ => true) held n 3 [q0] = some y0 := by have g := hf 0 _ rfl; simpa [show Tryd.prog.cellsOf 3 = 1 from by kernel_rfl] using g
      obtain ⟨z0, e0, r0, hw0⟩ := DataW.trod_int (k := .i64) (by kernel_rfl) g0
      have r0_ : (-9223372036854775808 ≤ z0 ∧ z0 < 9223372036854775808) := by
        have h1 : IntKind.min .i64 = -9223372036854775808 := by decide
        have h2 : IntKind.max .i64 = 9223372036854775807 := by decide
        simp [Lit.wf, h1, h2] at hw0; omega
      have u0 : 1 ≤ Rows.uptoBulk y0.1 := by rw [r0]; exact Nat.le_of_eq (lit_int _ _).symm
      simp only [List.cons.injEq, and_true] at e0
      obtain rfl := e0
      have g1 : DataW.trod enc Tryd.prog w base (fun _ => true) held n 3 [q1] = some y1 := by have g := hf 1 _ rfl; simpa [show Tryd.prog.cellsOf 3 = 1 from by kernel_rfl] using g
      obtain ⟨z1, e1, r1, hw1⟩ := DataW.trod_int (k := .i64) (by kernel_rfl) g1
      have r1_ : (-9223372036854775808 ≤ z1 ∧ z1 < 9223372036854775808) := by
        have h1 : IntKind.min .i64 = -9223372036854775808 := by decide
        have h2 : IntKind.max .i64 = 9223372036854775807 := by decide
        simp [Lit.wf, h1, h2] at hw1; omega
      have u1 : 1 ≤ Rows.uptoBulk y1.1 := by rw [r1]; exact Nat.le_of_eq (lit_int _ _).symm
      simp only [List.cons.injEq, and_true] at e1
      obtain rfl := e1
      have g2 : DataW.trod enc Tryd.prog w base (fun _ => true) held n 24 [q2, q3, q4] = some y2 := by have g := hf 2 _ rfl; simpa [show Tryd.prog.cellsOf 24 = 3 from by kernel_rfl] using g
      obtain ⟨z2, e2, r2_, u2⟩ := op24 g2
      simp only [List.cons.injEq, and_true] at e2
      obtain ⟨rfl, rfl, rfl⟩ := e2
      have g3 : DataW.trod enc Tryd.prog w base (fun _ => true) held n 3 [q5] = some y3 := by have g := hf 3 _ rfl; simpa [show Tryd.prog.cellsOf 3 = 1 from by kernel_rfl] using g
      obtain ⟨z3, e3, r3, hw3⟩ := DataW.trod_int (k := .i64) (by kernel_rfl) g3
      have r3_ : (-9223372036854775808 ≤ z3 ∧ z3 < 9223372036854775808) := by
        have h1 : IntKind.min .i64 = -9223372036854775808 := by decide
        have h2 : IntKind.max .i64 = 9223372036854775807 := by decide
        simp [Lit.wf, h1, h2] at hw3; omega
      have u3 : 1 ≤ Rows.uptoBulk y3.1 := by rw [r3]; exact Nat.le_of_eq (lit_int _ _).symm
      simp only [List.cons.injEq, and_true] at e3
      obtain rfl := e3
      have g4 : DataW.trod enc Tryd.prog w base (fun _ => true) held n 3 [q6] = some y4 := by have g := hf 4 _ rfl; simpa [show Tryd.prog.cellsOf 3 = 1 from by kernel_rfl] using g
      obtain ⟨z4, e4, r4, hw4⟩ := DataW.trod_int (k := .i64) (by kernel_rfl) g4
      have r4_ : (-9223372036854775808 ≤ z4 ∧ z4 < 9223372036854775808) := by
        have h1 : IntKind.min .i64 = -9223372036854775808 := by decide
        have h2 : IntKind.max .i64 = 9223372036854775807 := by decide
        simp [Lit.wf, h1, h2] at hw4; omega
      have u4 : 1 ≤ Rows.uptoBulk y4.1 := by rw [r4]; exact Nat.le_of_eq (lit_int _ _).symm
      simp only [List.cons.injEq, and_true] at e4
      obtain rfl := e4
      have g5 : DataW.trod enc Tryd.prog w base (fun _ => true) held n 2 [q7] = some y5 := by have g := hf 5 _ rfl; simpa [show Tryd.prog.cellsOf 2 = 1 from by kernel_rfl] using g
      obtain ⟨z5, e5, r5, hw5⟩ := DataW.trod_int (k := .i64) (by kernel_rfl) g5
      have r5_ : (-9223372036854775808 ≤ z5 ∧ z5 < 9223372036854775808) := by
        have h1 : IntKind.min .i64 = -9223372036854775808 := by decide
        have h2 : IntKind.max .i64 = 9223372036854775807 := by decide
        simp [Lit.wf, h1, h2] at hw5; omega
      have u5 : 1 ≤ Rows.uptoBulk y5.1 := by rw [r5]; exact Nat.le_of_eq (lit_int _ _).symm
      simp only [List.cons.injEq, and_true] at e5
      obtain rfl := e5
      have g6 : DataW.trod enc Tryd.prog w base (fun _ => true) held n 24 [q8, q9, q10] = some y6 := by have g := hf 6 _ rfl; simpa [show Tryd.prog.cellsOf 24 = 3 from by kernel_rfl] using g
      obtain ⟨z6, e6, r6_, u6⟩ := op24 g6
      simp only [List.cons.injEq, and_true] at e6
      obtain ⟨rfl, rfl, rfl⟩ := e6
      have g7 : DataW.trod enc Tryd.prog w base (fun _ => true) held n 28 [q11, q12] = some y7 := by have g := hf 7 _ rfl; simpa [show Tryd.prog.cellsOf 28 = 2 from by kernel_rfl] using g
      obtain ⟨z7, B7_1, d7_1, e7, hC7_1, hc7_1, r7_, u7⟩ := op28 g7
      simp only [List.cons.injEq, and_true] at e7
      obtain ⟨rfl, rfl⟩ := e7
      have g8 : DataW.trod enc Tryd.prog w base (fun _ => true) held n 4 [q13] = some y8 := by have g := hf 8 _ rfl; simpa [show Tryd.prog.cellsOf 4 = 1 from by kernel_rfl] using g
      obtain ⟨z8, e8, r8⟩ := DataW.trod_bool (by kernel_rfl) g8
      have u8 : 1 ≤ Rows.uptoBulk y8.1 := by rw [r8]; exact Nat.le_of_eq (lit_bool _).symm
      simp only [List.cons.injEq, and_true] at e8
      obtain rfl := e8
      refine ⟨⟨z0, z1, z2, z3, z4, z5, z6, z7, z8⟩, B7_1, d7_1, rfl, hC7_1, hc7_1, ⟨r0_, r1_, r2_, r3_, r4_, r5_, r6_, r7_⟩, ?_⟩
      simp only [List.map_cons, List.map_nil, Rows.uptoBulk, Rows.uptoBulkAll]; unfold wt30; simp only []; omega
def in144 (x : S144) : Prop := in24 x.f0 ∧ in24 x.f1
def wt144 (x : S144) : Nat := wt24 x.f0 + wt24 x.f1 + 1 + 1
set_option maxRecDepth 100000 in
theorem op144 {H : Type} {enc : TypeId × Value → H} {w : World} {base : Nat} {held : Bool} {fuel : Nat} {cs : List Value} {y : DataW H × List MemPlace} (h : DataW.trod enc Tryd.prog w base (fun _ => true) held fuel 144 cs = some y) : ∃ (x : S144), cs = [.int .i64 x.f0.f0, .int .i64 x.f0.f1, .string x.f0.f2, .int .i64 x.f1.f0, .int .i64 x.f1.f1, .string x.f1.f2, .bool x.f2] ∧ in144 x ∧ wt144 x ≤ Rows.uptoBulk y.1 := by
  obtain ⟨ys, n, _, rfl, hlen, hyl, hf⟩ := DataW.trod_struct Tryd.underlying144 h
  rw [show Tryd.prog.cellsOf 144 = 7 from by kernel_rfl] at hlen
  match cs, hlen with
  | [q0, q1, q2, q3, q4, q5, q6], _ =>
    match ys, hyl with
    | [y0, y1, y2], _ =>
      have g0 : DataW.trod enc Tryd.prog w base (fun _ => true) held n 24 [q0, q1, q2] = some y0 := by have g := hf 0 _ rfl; simpa [show Tryd.prog.cellsOf 24 = 3 from by kernel_rfl] using g
      obtain ⟨z0, e0, r0_, u0⟩ := op24 g0
      simp only [List.cons.injEq, and_true] at e0
      obtain ⟨rfl, rfl, rfl⟩ := e0
      have g1 : DataW.trod enc Tryd.prog w base (fun _ => true) held n 24 [q3, q4, q5] = some y1 := by have g := hf 1 _ rfl; simpa [show Tryd.prog.cellsOf 24 = 3 from by kernel_rfl] using g
      obtain ⟨z1, e1, r1_, u1⟩ := op24 g1
      simp only [List.cons.injEq, and_true] at e1
      obtain ⟨rfl, rfl, rfl⟩ := e1
      have g2 : DataW.trod enc Tryd.prog w base (fun _ => true) held n 4 [q6] = some y2 := by have g := hf 2 _ rfl; simpa [show Tryd.prog.cellsOf 4 = 1 from by kernel_rfl] using g
      obtain ⟨z2, e2, r2⟩ := DataW.trod_bool (by kernel_rfl) g2
      have u2 : 1 ≤ Rows.uptoBulk y2.1 := by rw [r2]; exact Nat.le_of_eq (lit_bool _).symm
      simp only [List.cons.injEq, and_true] at e2
      obtain rfl := e2
      refine ⟨⟨z0, z1, z2⟩, rfl, ⟨r0_, r1_⟩, ?_⟩
      simp only [List.map_cons, List.map_nil, Rows.uptoBulk, Rows.uptoBulkAll]; unfold wt144; simp only []; omega
theorem kk144 {H : Type} {enc : TypeId × Value → H} {w : World} {base : Nat} {held : Bool} {fuel : Nat} {cs : List Value} {y : DataW H × List MemPlace} (h : DataW.trod enc Tryd.prog w base (fun _ => true) held fuel 144 cs = some y) : ∃ x : S144, k144.K w x cs ∧ in144 x ∧ wt144 x ≤ Rows.uptoBulk y.1 := by
  obtain ⟨x, rfl, h1, h2⟩ := op144 h
  exact ⟨x, k144_mk w x , h1, h2⟩
def in146 (x : S146) : Prop := (-9223372036854775808 ≤ x.f0 ∧ x.f0 < 9223372036854775808) ∧ in24 x.f1 ∧ in24 x.f2
def wt146 (x : S146) : Nat := 1 + wt24 x.f1 + wt24 x.f2 + 1
set_option maxRecDepth 100000 in
theorem op146 {H : Type} {enc : TypeId × Value → H} {w : World} {base : Nat} {held : Bool} {fuel : Nat} {cs : List Value} {y : DataW H × List MemPlace} (h : DataW.trod enc Tryd.prog w base (fun _ => true) held fuel 146 cs = some y) : ∃ (x : S146), cs = [.int .i64 x.f0, .int .i64 x.f1.f0, .int .i64 x.f1.f1, .string x.f1.f2, .int .i64 x.f2.f0, .int .i64 x.f2.f1, .string x.f2.f2] ∧ in146 x ∧ wt146 x ≤ Rows.uptoBulk y.1 := by
  obtain ⟨ys, n, _, rfl, hlen, hyl, hf⟩ := DataW.trod_struct Tryd.underlying146 h
  rw [show Tryd.prog.cellsOf 146 = 7 from by kernel_rfl] at hlen
  match cs, hlen with
  | [q0, q1, q2, q3, q4, q5, q6], _ =>
    match ys, hyl with
    | [y0, y1, y2], _ =>
      have g0 : DataW.trod enc Tryd.prog w base (fun _ => true) held n 3 [q0] = some y0 := by have g := hf 0 _ rfl; simpa [show Tryd.prog.cellsOf 3 = 1 from by kernel_rfl] using g
      obtain ⟨z0, e0, r0, hw0⟩ := DataW.trod_int (k := .i64) (by kernel_rfl) g0
      have r0_ : (-9223372036854775808 ≤ z0 ∧ z0 < 9223372036854775808) := by
        have h1 : IntKind.min .i64 = -9223372036854775808 := by decide
        have h2 : IntKind.max .i64 = 9223372036854775807 := by decide
        simp [Lit.wf, h1, h2] at hw0; omega
      have u0 : 1 ≤ Rows.uptoBulk y0.1 := by rw [r0]; exact Nat.le_of_eq (lit_int _ _).symm
      simp only [List.cons.injEq, and_true] at e0
      obtain rfl := e0
      have g1 : DataW.trod enc Tryd.prog w base (fun _ => true) held n 24 [q1, q2, q3] = some y1 := by have g := hf 1 _ rfl; simpa [show Tryd.prog.cellsOf 24 = 3 from by kernel_rfl] using g
      obtain ⟨z1, e1, r1_, u1⟩ := op24 g1
      simp only [List.cons.injEq, and_true] at e1
      obtain ⟨rfl, rfl, rfl⟩ := e1
      have g2 : DataW.trod enc Tryd.prog w base (fun _ => true) held n 24 [q4, q5, q6] = some y2 := by have g := hf 2 _ rfl; simpa [show Tryd.prog.cellsOf 24 = 3 from by kernel_rfl] using g
      obtain ⟨z2, e2, r2_, u2⟩ := op24 g2
      simp only [List.cons.injEq, and_true] at e2
      obtain ⟨rfl, rfl, rfl⟩ := e2
      refine ⟨⟨z0, z1, z2⟩, rfl, ⟨r0_, r1_, r2_⟩, ?_⟩
      simp only [List.map_cons, List.map_nil, Rows.uptoBulk, Rows.uptoBulkAll]; unfold wt146; simp only []; omega
theorem kk146 {H : Type} {enc : TypeId × Value → H} {w : World} {base : Nat} {held : Bool} {fuel : Nat} {cs : List Value} {y : DataW H × List MemPlace} (h : DataW.trod enc Tryd.prog w base (fun _ => true) held fuel 146 cs = some y) : ∃ x : S146, k146.K w x cs ∧ in146 x ∧ wt146 x ≤ Rows.uptoBulk y.1 := by
  obtain ⟨x, rfl, h1, h2⟩ := op146 h
  exact ⟨x, k146_mk w x , h1, h2⟩
structure S39 where
  f0 : (List S144)
  f1 : (List S24)
  f2 : (List S146)
  f3 : Int
  f4 : Int
  f5 : S24
  f6 : S28
def in39 (x : S39) : Prop := (∀ y ∈ x.f0, in144 y) ∧ (∀ y ∈ x.f1, in24 y) ∧ (∀ y ∈ x.f2, in146 y) ∧ (-9223372036854775808 ≤ x.f3 ∧ x.f3 < 9223372036854775808) ∧ (-9223372036854775808 ≤ x.f4 ∧ x.f4 < 9223372036854775808) ∧ in24 x.f5 ∧ in28 x.f6
def wt39 (x : S39) : Nat := ((x.f0.map wt144).sum + 1) + ((x.f1.map wt24).sum + 1) + ((x.f2.map wt146).sum + 1) + 1 + 1 + wt24 x.f5 + wt28 x.f6 + 1
set_option maxRecDepth 100000 in
theorem op39 {H : Type} {enc : TypeId × Value → H} {w : World} {base : Nat} {held : Bool} {fuel : Nat} {cs : List Value} {y : DataW H × List MemPlace} (h : DataW.trod enc Tryd.prog w base (fun _ => true) held fuel 39 cs = some y) : ∃ (x : S39) (A0 : Option Addr) (c0 : Nat) (A1 : Option Addr) (c1 : Nat) (A2 : Option Addr) (c2 : Nat) (A9 : Option Addr) (c9 : Nat), cs = [.slice A0 x.f0.length c0, .slice A1 x.f1.length c1, .slice A2 x.f2.length c2, .int .i64 x.f3, .int .i64 x.f4, .int .i64 x.f5.f0, .int .i64 x.f5.f1, .string x.f5.f2, .int .i64 x.f6.f0, .slice A9 x.f6.f1.length c9] ∧ Kd.C k144 w A0 x.f0.length x.f0 ∧ x.f0.length ≤ c0 ∧ Kd.C k24 w A1 x.f1.length x.f1 ∧ x.f1.length ≤ c1 ∧ Kd.C k146 w A2 x.f2.length x.f2 ∧ x.f2.length ≤ c2 ∧ Kd.C k24 w A9 x.f6.f1.length x.f6.f1 ∧ x.f6.f1.length ≤ c9 ∧ in39 x ∧ wt39 x ≤ Rows.uptoBulk y.1 := by
  obtain ⟨ys, n, _, rfl, hlen, hyl, hf⟩ := DataW.trod_struct Tryd.underlying39 h
  rw [show Tryd.prog.cellsOf 39 = 10 from by kernel_rfl] at hlen
  match cs, hlen with
  | [q0, q1, q2, q3, q4, q5, q6, q7, q8, q9], _ =>
    match ys, hyl with
    | [y0, y1, y2, y3, y4, y5, y6], _ =>
      have g0 : DataW.trod enc Tryd.prog w base (fun _ => true) held n 36 [q0] = some y0 := by have g := hf 0 _ rfl; simpa [show Tryd.prog.cellsOf 36 = 1 from by kernel_rfl] using g
      obtain ⟨B0, d0, z0, e0, hC0, hc0, r0_, u0⟩ := open_sl k144 in144 wt144 (by kernel_rfl) (by kernel_rfl) (fun _ _ _ h' => kk144 h') g0
      simp only [List.cons.injEq, and_true] at e0
      obtain rfl := e0
      have g1 : DataW.trod enc Tryd.prog w base (fun _ => true) held n 26 [q1] = some y1 := by have g := hf 1 _ rfl; simpa [show Tryd.prog.cellsOf 26 = 1 from by kernel_rfl] using g
      obtain ⟨B1, d1, z1, e1, hC1, hc1, r1_, u1⟩ := open_sl k24 in24 wt24 (by kernel_rfl) (by kernel_rfl) (fun _ _ _ h' => kk24 h') g1
      simp only [List.cons.injEq, and_true] at e1
      obtain rfl := e1
      have g2 : DataW.trod enc Tryd.prog w base (fun _ => true) held n 37 [q2] = some y2 := by have g := hf 2 _ rfl; simpa [show Tryd.prog.cellsOf 37 = 1 from by kernel_rfl] using g
      obtain ⟨B2, d2, z2, e2, hC2, hc2, r2_, u2⟩ := open_sl k146 in146 wt146 (by kernel_rfl) (by kernel_rfl) (fun _ _ _ h' => kk146 h') g2
      simp only [List.cons.injEq, and_true] at e2
      obtain rfl := e2
      have g3 : DataW.trod enc Tryd.prog w base (fun _ => true) held n 2 [q3] = some y3 := by have g := hf 3 _ rfl; simpa [show Tryd.prog.cellsOf 2 = 1 from by kernel_rfl] using g
      obtain ⟨z3, e3, r3, hw3⟩ := DataW.trod_int (k := .i64) (by kernel_rfl) g3
      have r3_ : (-9223372036854775808 ≤ z3 ∧ z3 < 9223372036854775808) := by
        have h1 : IntKind.min .i64 = -9223372036854775808 := by decide
        have h2 : IntKind.max .i64 = 9223372036854775807 := by decide
        simp [Lit.wf, h1, h2] at hw3; omega
      have u3 : 1 ≤ Rows.uptoBulk y3.1 := by rw [r3]; exact Nat.le_of_eq (lit_int _ _).symm
      simp only [List.cons.injEq, and_true] at e3
      obtain rfl := e3
      have g4 : DataW.trod enc Tryd.prog w base (fun _ => true) held n 3 [q4] = some y4 := by have g := hf 4 _ rfl; simpa [show Tryd.prog.cellsOf 3 = 1 from by kernel_rfl] using g
      obtain ⟨z4, e4, r4, hw4⟩ := DataW.trod_int (k := .i64) (by kernel_rfl) g4
      have r4_ : (-9223372036854775808 ≤ z4 ∧ z4 < 9223372036854775808) := by
        have h1 : IntKind.min .i64 = -9223372036854775808 := by decide
        have h2 : IntKind.max .i64 = 9223372036854775807 := by decide
        simp [Lit.wf, h1, h2] at hw4; omega
      have u4 : 1 ≤ Rows.uptoBulk y4.1 := by rw [r4]; exact Nat.le_of_eq (lit_int _ _).symm
      simp only [List.cons.injEq, and_true] at e4
      obtain rfl := e4
      have g5 : DataW.trod enc Tryd.prog w base (fun _ => true) held n 24 [q5, q6, q7] = some y5 := by have g := hf 5 _ rfl; simpa [show Tryd.prog.cellsOf 24 = 3 from by kernel_rfl] using g
      obtain ⟨z5, e5, r5_, u5⟩ := op24 g5
      simp only [List.cons.injEq, and_true] at e5
      obtain ⟨rfl, rfl, rfl⟩ := e5
      have g6 : DataW.trod enc Tryd.prog w base (fun _ => true) held n 28 [q8, q9] = some y6 := by have g := hf 6 _ rfl; simpa [show Tryd.prog.cellsOf 28 = 2 from by kernel_rfl] using g
      obtain ⟨z6, B6_1, d6_1, e6, hC6_1, hc6_1, r6_, u6⟩ := op28 g6
      simp only [List.cons.injEq, and_true] at e6
      obtain ⟨rfl, rfl⟩ := e6
      refine ⟨⟨z0, z1, z2, z3, z4, z5, z6⟩, B0, d0, B1, d1, B2, d2, B6_1, d6_1, rfl, hC0, hc0, hC1, hc1, hC2, hc2, hC6_1, hc6_1, ⟨r0_, r1_, r2_, r3_, r4_, r5_, r6_⟩, ?_⟩
      simp only [List.map_cons, List.map_nil, Rows.uptoBulk, Rows.uptoBulkAll]; unfold wt39; simp only []; omega
end Go.Proofs.YtobjnhkjahhfnaaDoor.XA
