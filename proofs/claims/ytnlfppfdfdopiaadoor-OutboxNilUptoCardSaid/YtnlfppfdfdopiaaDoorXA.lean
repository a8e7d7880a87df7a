/- Arguments opened: structs and slices of them, what each value is, how great it is; and what the bulk's bound gives. No conditions. -/
import Derived.Test.YtnlfppfdfdopiaaDoorCards
import Derived.Test.YtnlfppfdfdopiaaDoorPAllx0
import Derived.WalkKit
import Derived.Deep.Slices
import Derived.Deep.Fields
import Derived.ChangeSame
import Derived.OpenShut
import Derived.ShutString
import Derived.ProofKit
namespace Go.Proofs.YtnlfppfdfdopiaaDoor.XA
open Go.ChangeShapes Go.WideShapes Go.Deep Go.RowKit Go.Proofs.YtnlfppfdfdopiaaDoorW.PrintWords Go.Proofs.YtnlfppfdfdopiaaDoor.PAll
set_option linter.unusedVariables false

theorem bulk_le {H : Type} {α : Type} (wt : α → Nat) : ∀ (l : List α) (L : List (DataW H)), l.length = L.length → (∀ (j : Nat) (x : α) (d : DataW H), l[j]? = some x → L[j]? = some d → wt x ≤ Rows.uptoBulk d) → (l.map wt).sum ≤ Rows.uptoBulkAll L := by
  intro l
  induction l with
  | nil => intro L _ _; simp
  | cons x l ih =>
    intro L hl hq
    cases L with
    | nil => simp at hl
    | cons d L =>
      have h0 := hq 0 x d rfl rfl
      have h1 := ih L (by simpa using hl) (fun j y e h1 h2 => hq (j + 1) y e h1 h2)
      rw [List.map_cons, List.sum_cons, Rows.uptoBulkAll]; omega
theorem exists_list {α : Type} : ∀ (n : Nat) (Q : Nat → α → Prop), (∀ i, i < n → ∃ x, Q i x) → ∃ l : List α, l.length = n ∧ ∀ j x, l[j]? = some x → Q j x := by
  intro n
  induction n with
  | zero => intro Q _; exact ⟨[], rfl, fun j x h => by simp at h⟩
  | succ n ih =>
    intro Q h
    obtain ⟨l, hl, hq⟩ := ih Q (fun i hi => h i (by omega))
    obtain ⟨x, hx⟩ := h n (by omega)
    refine ⟨l ++ [x], by simp [hl], fun j y hy => ?_⟩
    rcases Nat.lt_or_ge j l.length with hj | hj
    · rw [List.getElem?_append_left hj] at hy; exact hq j y hy
    · rw [List.getElem?_append_right hj] at hy
      have : j - l.length = 0 := by
        rcases Nat.eq_zero_or_pos (j - l.length) with h0 | h0
        · exact h0
        · rw [List.getElem?_eq_none (by simp; omega)] at hy; cases hy
      rw [this] at hy
      obtain rfl : x = y := by simpa using hy
      obtain rfl : j = n := by omega
      exact hx
theorem lit_int {H : Type} (k : IntKind) (n : Int) : Rows.uptoBulk (DataW.lit (H := H) (.int k n)) = 1 := by simp [Rows.uptoBulk]
theorem lit_bool {H : Type} (b : Bool) : Rows.uptoBulk (DataW.lit (H := H) (.bool b)) = 1 := by simp [Rows.uptoBulk]
theorem lit_str {H : Type} (a : ByteArray) : Rows.uptoBulk (DataW.lit (H := H) (.string a.data.toList)) = a.size + 1 := by
  rw [Lib.size_eq]; simp [Rows.uptoBulk]
theorem one_le {H : Type} (d : DataW H) : 1 ≤ Rows.uptoBulk d := by
  cases d with
  | lit l => cases l <;> simp [Rows.uptoBulk]
  | nil => simp [Rows.uptoBulk]
  | ptr d => simp [Rows.uptoBulk]
  | slice elems spare => simp [Rows.uptoBulk]
  | agg parts => simp [Rows.uptoBulk]
  | iface t d => simp [Rows.uptoBulk]
  | map entries => simp [Rows.uptoBulk]
  | held h => simp [Rows.uptoBulk]
theorem bound {H : Type} {l : List (DataW H)} (hk : Rows.uptoSmall H l = true) : Rows.uptoBulkAll l ≤ 1048576 := by
  simpa [Rows.uptoSmall] using hk
/-- a slice opened: what each element is, by its kind -/
theorem open_sl {H : Type} {enc : TypeId × Value → H} {P : Program} {w : World} {base : Nat} {held : Bool} {α : Type} {t e : TypeId} {fuel : Nat} {cs : List Value} {x : DataW H × List MemPlace} (kE : Kd α) (inE : α → Prop) (wtE : α → Nat)
    (ht : P.underlying t = some (.slice e)) (hC : P.cellsOf e = kE.sz)
    (hE : ∀ (n : Nat) (cs' : List Value) (y : DataW H × List MemPlace), DataW.trod enc P w base (fun _ => true) held n e cs' = some y → ∃ u : α, kE.K w u cs' ∧ inE u ∧ wtE u ≤ Rows.uptoBulk y.1)
    (h : DataW.trod enc P w base (fun _ => true) held fuel t cs = some x) :
    ∃ (A : Option Addr) (c : Nat) (l : List α), cs = [.slice A l.length c] ∧ Kd.C kE w A l.length l ∧ l.length ≤ c ∧ (∀ u ∈ l, inE u) ∧ (l.map wtE).sum + 1 ≤ Rows.uptoBulk x.1 := by
  rcases open_slice ht h with ⟨hcs, hx⟩ | ⟨a, len, cap, m, n, D, Pl, hcs, hb, hl, hm, hmm, hx, hi⟩
  · exact ⟨none, 0, [], hcs, Kd.C_nil _ _, Nat.le_refl _, fun x hx => (List.not_mem_nil hx).elim, by simp only [List.map_nil, List.sum_nil]; exact one_le _⟩
  · rw [if_pos rfl] at hmm
    obtain rfl := hmm.symm
    obtain ⟨l, hll, hq⟩ := exists_list len (fun i (u : α) => (∃ cs', kE.K w u cs' ∧ cs'.length = kE.sz ∧ ∀ j v, cs'[j]? = some v → w.cell? (a.add (i * kE.sz + j)) = some v) ∧ inE u ∧ wtE u ≤ Rows.uptoBulk (D i)) (fun i hil => by
      obtain ⟨cs', hc, ht'⟩ := hi i (by omega)
      rw [hC] at hc
      obtain ⟨_, hcl, hat⟩ := World.cells?_some hc
      obtain ⟨u, hu1, hu2, hu3⟩ := hE n cs' _ ht'
      refine ⟨u, ⟨cs', hu1, hcl, fun j v hv => ?_⟩, hu2, hu3⟩
      have hjl : j < kE.sz := by rw [← hcl]; exact (List.getElem?_eq_some_iff.1 hv).1
      rw [← Go.Deep.add_add, hat j hjl, hv])
    have hmx : maxLen = 9223372036854775807 := rfl
    refine ⟨some a, cap, l, by rw [hcs, hll], ⟨rfl, by omega, fun _ => ⟨a, rfl, fun j u hj => ?_⟩⟩, by omega, fun u hu => ?_, ?_⟩
    · obtain ⟨⟨cs', h1, h2, h3⟩, _, _⟩ := hq j u hj
      exact ⟨cs', h2, h1, h3⟩
    · obtain ⟨j, hj⟩ := List.getElem?_of_mem hu
      exact (hq j u hj).2.1
    · obtain rfl := hx
      rw [Rows.uptoBulk]
      have := bulk_le wtE l ((List.range len).map D) (by simp [hll]) (fun j u d h1 h2 => by
        have hj : j < len := by rw [← hll]; exact (List.getElem?_eq_some_iff.1 h1).1
        rw [List.getElem?_map, List.getElem?_range hj] at h2
        obtain rfl : D j = d := by simpa using h2
        exact (hq j u h1).2.2)
      omega
theorem k_int {w : World} {k : IntKind} (n : Int) : (Kd.int k).K w n [.int k n] := rfl
theorem k_str {w : World} (n : ByteArray) : Kd.string.K w n [.string n] := rfl
theorem k_bool {w : World} (n : Bool) : Kd.bool.K w n [.bool n] := rfl
theorem k_slice {w : World} {α : Type} {d : Kd α} {e : Nat} {A : Option Addr} {c : Nat} {l : List α} (hl : l.length ≤ c) (h : Kd.C d w A l.length l) : (Kd.slice e d).K w l [.slice A l.length c] := ⟨A, c, rfl, hl, h⟩

def in30 (x : S30) : Prop := (-9223372036854775808 ≤ x.f0 ∧ x.f0 < 9223372036854775808) ∧ (-9223372036854775808 ≤ x.f1 ∧ x.f1 < 9223372036854775808)
def wt30 (x : S30) : Nat := 1 + 1 + (x.f2.size + 1) + 1
set_option maxRecDepth 100000 in
theorem op30 {H : Type} {enc : TypeId × Value → H} {w : World} {base : Nat} {held : Bool} {fuel : Nat} {cs : List Value} {y : DataW H × List MemPlace} (h : DataW.trod enc Tryd.prog w base (fun _ => true) held fuel 30 cs = some y) : ∃ (x : S30), cs = [.int .i64 x.f0, .int .i64 x.f1, .string x.f2] ∧ in30 x ∧ wt30 x ≤ Rows.uptoBulk y.1 := by
  obtain ⟨ys, n, _, rfl, hlen, hyl, hf⟩ := DataW.trod_struct Tryd.underlying30 h
  rw [show Tryd.prog.cellsOf 30 = 3 from by kernel_rfl] at hlen
  match cs, hlen with
  | [q0, q1, q2], _ =>
    match ys, hyl with
    | [y0, y1, y2], _ =>
      have g0 : DataW.trod enc Tryd.prog w base (fun _ => true) held n 28 [q0] = some y0 := by have g := hf 0 _ rfl; simpa [show Tryd.prog.cellsOf 28 = 1 from by kernel_rfl] using g
      obtain ⟨z0, e0, r0, hw0⟩ := DataW.trod_int (k := .i64) (by kernel_rfl) g0
      have r0_ : (-9223372036854775808 ≤ z0 ∧ z0 < 9223372036854775808) := by
        have h1 : IntKind.min .i64 = -9223372036854775808 := by decide
        have h2 : IntKind.max .i64 = 9223372036854775807 := by decide
        simp [Lit.wf, h1, h2] at hw0; omega
      have u0 : 1 ≤ Rows.uptoBulk y0.1 := by rw [r0]; exact Nat.le_of_eq (lit_int _ _).symm
      simp only [List.cons.injEq, and_true] at e0
      obtain rfl := e0
      have g1 : DataW.trod enc Tryd.prog w base (fun _ => true) held n 2 [q1] = some y1 := by have g := hf 1 _ rfl; simpa [show Tryd.prog.cellsOf 2 = 1 from by kernel_rfl] using g
      obtain ⟨z1, e1, r1, hw1⟩ := DataW.trod_int (k := .i64) (by kernel_rfl) g1
      have r1_ : (-9223372036854775808 ≤ z1 ∧ z1 < 9223372036854775808) := by
        have h1 : IntKind.min .i64 = -9223372036854775808 := by decide
        have h2 : IntKind.max .i64 = 9223372036854775807 := by decide
        simp [Lit.wf, h1, h2] at hw1; omega
      have u1 : 1 ≤ Rows.uptoBulk y1.1 := by rw [r1]; exact Nat.le_of_eq (lit_int _ _).symm
      simp only [List.cons.injEq, and_true] at e1
      obtain rfl := e1
      have g2 : DataW.trod enc Tryd.prog w base (fun _ => true) held n 9 [q2] = some y2 := by have g := hf 2 _ rfl; simpa [show Tryd.prog.cellsOf 9 = 1 from by kernel_rfl] using g
      obtain ⟨z2, e2, r2, _⟩ := DataW.trod_string (by kernel_rfl) g2
      have u2 : z2.size + 1 ≤ Rows.uptoBulk y2.1 := by rw [r2]; exact Nat.le_of_eq (lit_str _).symm
      simp only [List.cons.injEq, and_true] at e2
      obtain rfl := e2
      refine ⟨⟨z0, z1, z2⟩, rfl, ⟨r0_, r1_⟩, ?_⟩
      simp only [List.map_cons, List.map_nil, Rows.uptoBulk, Rows.uptoBulkAll]; unfold wt30; simp only []; omega
theorem kk30 {H : Type} {enc : TypeId × Value → H} {w : World} {base : Nat} {held : Bool} {fuel : Nat} {cs : List Value} {y : DataW H × List MemPlace} (h : DataW.trod enc Tryd.prog w base (fun _ => true) held fuel 30 cs = some y) : ∃ x : S30, k30.K w x cs ∧ in30 x ∧ wt30 x ≤ Rows.uptoBulk y.1 := by
  obtain ⟨x, rfl, h1, h2⟩ := op30 h
  exact ⟨x, k30_mk w x , h1, h2⟩
def in32 (x : S32) : Prop := (-9223372036854775808 ≤ x.f0 ∧ x.f0 < 9223372036854775808) ∧ (-9223372036854775808 ≤ x.f1 ∧ x.f1 < 9223372036854775808) ∧ (-9223372036854775808 ≤ x.f2 ∧ x.f2 < 9223372036854775808) ∧ in30 x.f3
def wt32 (x : S32) : Nat := 1 + 1 + 1 + wt30 x.f3 + 1
set_option maxRecDepth 100000 in
theorem op32 {H : Type} {enc : TypeId × Value → H} {w : World} {base : Nat} {held : Bool} {fuel : Nat} {cs : List Value} {y : DataW H × List MemPlace} (h : DataW.trod enc Tryd.prog w base (fun _ => true) held fuel 32 cs = some y) : ∃ (x : S32), cs = [.int .i64 x.f0, .int .i64 x.f1, .int .i64 x.f2, .int .i64 x.f3.f0, .int .i64 x.f3.f1, .string x.f3.f2] ∧ in32 x ∧ wt32 x ≤ Rows.uptoBulk y.1 := by
  obtain ⟨ys, n, _, rfl, hlen, hyl, hf⟩ := DataW.trod_struct Tryd.underlying32 h
  rw [show Tryd.prog.cellsOf 32 = 6 from by kernel_rfl] at hlen
  match cs, hlen with
  | [q0, q1, q2, q3, q4, q5], _ =>
    match ys, hyl with
    | [y0, y1, y2, y3], _ =>
      have g0 : DataW.trod enc Tryd.prog w base (fun _ => true) held n 3 [q0] = some y0 := by have g := hf 0 _ rfl; simpa [show Tryd.prog.cellsOf 3 = 1 from by kernel_rfl] using g
      obtain ⟨z0, e0, r0, hw0⟩ := DataW.trod_int (k := .i64) (by kernel_rfl) g0
      have r0_ : (-9223372036854775808 ≤ z0 ∧ z0 < 9223372036854775808) := by
        have h1 : IntKind.min .i64 = -9223372036854775808 := by decide
        have h2 : IntKind.max .i64 = 9223372036854775807 := by decide
        simp [Lit.wf, h1, h2] at hw0; omega
      have u0 : 1 ≤ Rows.uptoBulk y0.1 := by rw [r0]; exact Nat.le_of_eq (lit_int _ _).symm
      simp only [List.cons.injEq, and_true] at e0
      obtain rfl := e0
      have g1 : DataW.trod enc Tryd.prog w base (fun _ => true) held n 3 [q1] = some y1 := by have g := hf 1 _ rfl; simpa [show Tryd.prog.cellsOf 3 = 1 from by kernel_rfl] using g
      obtain ⟨z1, e1, r1, hw1⟩ := DataW.trod_int (k := .i64) (by kernel_rfl) g1
      have r1_ : (-9223372036854775808 ≤ z1 ∧ z1 < 9223372036854775808) := by
        have h1 : IntKind.min .i64 = -9223372036854775808 := by decide
        have h2 : IntKind.max .i64 = 9223372036854775807 := by decide
        simp [Lit.wf, h1, h2] at hw1; omega
      have u1 : 1 ≤ Rows.uptoBulk y1.1 := by rw [r1]; exact Nat.le_of_eq (lit_int _ _).symm
      simp only [List.cons.injEq, and_true] at e1
      obtain rfl := e1
      have g2 : DataW.trod enc Tryd.prog w base (fun _ => true) held n 3 [q2] = some y2 := by have g := hf 2 _ rfl; simpa [show Tryd.prog.cellsOf 3 = 1 from by kernel_rfl] using g
      obtain ⟨z2, e2, r2, hw2⟩ := DataW.trod_int (k := .i64) (by kernel_rfl) g2
      have r2_ : (-9223372036854775808 ≤ z2 ∧ z2 < 9223372036854775808) := by
        have h1 : IntKind.min .i64 = -9223372036854775808 := by decide
        have h2 : IntKind.max .i64 = 9223372036854775807 := by decide
        simp [Lit.wf, h1, h2] at hw2; omega
      have u2 : 1 ≤ Rows.uptoBulk y2.1 := by rw [r2]; exact Nat.le_of_eq (lit_int _ _).symm
      simp only [List.cons.injEq, and_true] at e2
      obtain rfl := e2
      have g3 : DataW.trod enc Tryd.prog w base (fun _ => true) held n 30 [q3, q4, q5] = some y3 := by have g := hf 3 _ rfl; simpa [show Tryd.prog.cellsOf 30 = 3 from by kernel_rfl] using g
      obtain ⟨z3, e3, r3_, u3⟩ := op30 g3
      simp only [List.cons.injEq, and_true] at e3
      obtain ⟨rfl, rfl, rfl⟩ := e3
      refine ⟨⟨z0, z1, z2, z3⟩, rfl, ⟨r0_, r1_, r2_, r3_⟩, ?_⟩
      simp only [List.map_cons, List.map_nil, Rows.uptoBulk, Rows.uptoBulkAll]; unfold wt32; simp only []; omega
theorem kk32 {H : Type} {enc : TypeId × Value → H} {w : World} {base : Nat} {held : Bool} {fuel : Nat} {cs : List Value} {y : DataW H × List MemPlace} (h : DataW.trod enc Tryd.prog w base (fun _ => true) held fuel 32 cs = some y) : ∃ x : S32, k32.K w x cs ∧ in32 x ∧ wt32 x ≤ Rows.uptoBulk y.1 := by
  obtain ⟨x, rfl, h1, h2⟩ := op32 h
  exact ⟨x, k32_mk w x , h1, h2⟩
structure S34 where
  f0 : Int
  f1 : Int
  f2 : Int
  f3 : S32
def in34 (x : S34) : Prop := (-9223372036854775808 ≤ x.f0 ∧ x.f0 < 9223372036854775808) ∧ (-9223372036854775808 ≤ x.f1 ∧ x.f1 < 9223372036854775808) ∧ (-9223372036854775808 ≤ x.f2 ∧ x.f2 < 9223372036854775808) ∧ in32 x.f3
def wt34 (x : S34) : Nat := 1 + 1 + 1 + wt32 x.f3 + 1
set_option maxRecDepth 100000 in
theorem op34 {H : Type} {enc : TypeId × Value → H} {w : World} {base : Nat} {held : Bool} {fuel : Nat} {cs : List Value} {y : DataW H × List MemPlace} (h : DataW.trod enc Tryd.prog w base (fun _ => true) held fuel 34 cs = some y) : ∃ (x : S34), cs = [.int .i64 x.f0, .int .i64 x.f1, .int .i64 x.f2, .int .i64 x.f3.f0, .int .i64 x.f3.f1, .int .i64 x.f3.f2, .int .i64 x.f3.f3.f0, .int .i64 x.f3.f3.f1, .string x.f3.f3.f2] ∧ in34 x ∧ wt34 x ≤ Rows.uptoBulk y.1 := by
  obtain ⟨ys, n, _, rfl, hlen, hyl, hf⟩ := DataW.trod_struct Tryd.underlying34 h
  rw [show Tryd.prog.cellsOf 34 = 9 from by kernel_rfl] at hlen
  match cs, hlen with
  | [q0, q1, q2, q3, q4, q5, q6, q7, q8], _ =>
    match ys, hyl with
    | [y0, y1, y2, y3], _ =>
      have g0 : DataW.trod enc Tryd.prog w base (fun _ => true) held n 3 [q0] = some y0 := by have g := hf 0 _ rfl; simpa [show Tryd.prog.cellsOf 3 = 1 from by kernel_rfl] using g
      obtain ⟨z0, e0, r0, hw0⟩ := DataW.trod_int (k := .i64) (by kernel_rfl) g0
      have r0_ : (-9223372036854775808 ≤ z0 ∧ z0 < 9223372036854775808) := by
        have h1 : IntKind.min .i64 = -9223372036854775808 := by decide
        have h2 : IntKind.max .i64 = 9223372036854775807 := by decide
        simp [Lit.wf, h1, h2] at hw0; omega
      have u0 : 1 ≤ Rows.uptoBulk y0.1 := by rw [r0]; exact Nat.le_of_eq (lit_int _ _).symm
      simp only [List.cons.injEq, and_true] at e0
      obtain rfl := e0
      have g1 : DataW.trod enc Tryd.prog w base (fun _ => true) held n 3 [q1] = some y1 := by have g := hf 1 _ rfl; simpa [show Tryd.prog.cellsOf 3 = 1 from by kernel_rfl] using g
      obtain ⟨z1, e1, r1, hw1⟩ := DataW.trod_int (k := .i64) (by kernel_rfl) g1
      have r1_ : (-9223372036854775808 ≤ z1 ∧ z1 < 9223372036854775808) := by
        have h1 : IntKind.min .i64 = -9223372036854775808 := by decide
        have h2 : IntKind.max .i64 = 9223372036854775807 := by decide
        simp [Lit.wf, h1, h2] at hw1; omega
      have u1 : 1 ≤ Rows.uptoBulk y1.1 := by rw [r1]; exact Nat.le_of_eq (lit_int _ _).symm
      simp only [List.cons.injEq, and_true] at e1
      obtain rfl := e1
      have g2 : DataW.trod enc Tryd.prog w base (fun _ => true) held n 3 [q2] = some y2 := by have g := hf 2 _ rfl; simpa [show Tryd.prog.cellsOf 3 = 1 from by kernel_rfl] using g
      obtain ⟨z2, e2, r2, hw2⟩ := DataW.trod_int (k := .i64) (by kernel_rfl) g2
      have r2_ : (-9223372036854775808 ≤ z2 ∧ z2 < 9223372036854775808) := by
        have h1 : IntKind.min .i64 = -9223372036854775808 := by decide
        have h2 : IntKind.max .i64 = 9223372036854775807 := by decide
        simp [Lit.wf, h1, h2] at hw2; omega
      have u2 : 1 ≤ Rows.uptoBulk y2.1 := by rw [r2]; exact Nat.le_of_eq (lit_int _ _).symm
      simp only [List.cons.injEq, and_true] at e2
      obtain rfl := e2
      have g3 : DataW.trod enc Tryd.prog w base (fun _ => true) held n 32 [q3, q4, q5, q6, q7, q8] = some y3 := by have g := hf 3 _ rfl; simpa [show Tryd.prog.cellsOf 32 = 6 from by kernel_rfl] using g
      obtain ⟨z3, e3, r3_, u3⟩ := op32 g3
      simp only [List.cons.injEq, and_true] at e3
      obtain ⟨rfl, rfl, rfl, rfl, rfl, rfl⟩ := e3
      refine ⟨⟨z0, z1, z2, z3⟩, rfl, ⟨r0_, r1_, r2_, r3_⟩, ?_⟩
      simp only [List.map_cons, List.map_nil, Rows.uptoBulk, Rows.uptoBulkAll]; unfold wt34; simp only []; omega
end Go.Proofs.YtnlfppfdfdopiaaDoor.XA
