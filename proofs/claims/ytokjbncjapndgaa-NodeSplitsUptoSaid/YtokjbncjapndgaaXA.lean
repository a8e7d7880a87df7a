/- Arguments opened: structs and slices of them, what each value is, how great it is; and what the bulk's bound gives. No conditions. -/
import Derived.Test.YtokjbncjapndgaaRows
import Derived.Test.YtokjbncjapndgaaPAllx0
import Derived.WalkKit
import Derived.Deep.Slices
import Derived.Deep.Fields
import Derived.ChangeSame
import Derived.OpenShut
import Derived.ShutString
import Derived.ProofKit
namespace Go.Proofs.Ytokjbncjapndgaa.XA
open Go.ChangeShapes Go.WideShapes Go.Deep Go.RowKit Go.Proofs.YtokjbncjapndgaaW.PrintWords Go.Proofs.Ytokjbncjapndgaa.PAll
set_option linter.unusedVariables false

theorem bulk_le {H : Type} {α : Type} (wt : α → Nat) : ∀ (l : List α) (L : List (DataW H)), l.length = L.length → (∀ (j : Nat) (x : α) (d : DataW H), l[j]? = some x → L[j]? = some d → wt x ≤ Rows.uptoBulk d) → (l.map wt).sum ≤ Rows.uptoBulkAll L := by
  intro l
  induction l with
  | nil => intro L _ _; simp
  | cons x l ih =>
    intro L hl hq
    cases L with
    | nil => simp at hl
    | cons d L =>
      have h0 := hq 0 x d rfl rfl
      have h1 := ih L (by simpa using hl) (fun j y e h1 h2 => hq (j + 1) y e h1 h2)
      rw [List.map_cons, List.sum_cons, Rows.uptoBulkAll]; omega
theorem exists_list {α : Type} : ∀ (n : Nat) (Q : Nat → α → Prop), (∀ i, i < n → ∃ x, Q i x) → ∃ l : List α, l.length = n ∧ ∀ j x, l[j]? = some x → Q j x := by
  intro n
  induction n with
  | zero => intro Q _; exact ⟨[], rfl, fun j x h => by simp at h⟩
  | succ n ih =>
    intro Q h
    obtain ⟨l, hl, hq⟩ := ih Q (fun i hi => h i (by omega))
    obtain ⟨x, hx⟩ := h n (by omega)
    refine ⟨l ++ [x], by simp [hl], fun j y hy => ?_⟩
    rcases Nat.lt_or_ge j l.length with hj | hj
    · rw [List.getElem?_append_left hj] at hy; exact hq j y hy
    · rw [List.getElem?_append_right hj] at hy
      have : j - l.length = 0 := by
        rcases Nat.eq_zero_or_pos (j - l.length) with h0 | h0
        · exact h0
        · rw [List.getElem?_eq_none (by simp; omega)] at hy; cases hy
      rw [this] at hy
      obtain rfl : x = y := by simpa using hy
      obtain rfl : j = n := by omega
      exact hx
theorem lit_int {H : Type} (k : IntKind) (n : Int) : Rows.uptoBulk (DataW.lit (H := H) (.int k n)) = 1 := by simp [Rows.uptoBulk]
theorem lit_bool {H : Type} (b : Bool) : Rows.uptoBulk (DataW.lit (H := H) (.bool b)) = 1 := by simp [Rows.uptoBulk]
theorem lit_str {H : Type} (a : ByteArray) : Rows.uptoBulk (DataW.lit (H := H) (.string a.data.toList)) = a.size + 1 := by
  rw [Lib.size_eq]; simp [Rows.uptoBulk]
theorem one_le {H : Type} (d : DataW H) : 1 ≤ Rows.uptoBulk d := by
  cases d with
  | lit l => cases l <;> simp [Rows.uptoBulk]
  | nil => simp [Rows.uptoBulk]
  | ptr d => simp [Rows.uptoBulk]
  | slice elems spare => simp [Rows.uptoBulk]
  | agg parts => simp [Rows.uptoBulk]
  | iface t d => simp [Rows.uptoBulk]
  | map entries => simp [Rows.uptoBulk]
  | held h => simp [Rows.uptoBulk]
theorem bound {H : Type} {l : List (DataW H)} (hk : Rows.uptoSmall H l = true) : Rows.uptoBulkAll l ≤ 1048576 := by
  simpa [Rows.uptoSmall] using hk
/-- a slice opened: what each element is, by its kind -/
theorem open_sl {H : Type} {enc : TypeId × Value → H} {P : Program} {w : World} {base : Nat} {held : Bool} {α : Type} {t e : TypeId} {fuel : Nat} {cs : List Value} {x : DataW H × List MemPlace} (kE : Kd α) (inE : α → Prop) (wtE : α → Nat)
    (ht : P.underlying t = some (.slice e)) (hC : P.cellsOf e = kE.sz)
    (hE : ∀ (n : Nat) (cs' : List Value) (y : DataW H × List MemPlace), DataW.trod enc P w base (fun _ => true) held n e cs' = some y → ∃ u : α, kE.K w u cs' ∧ inE u ∧ wtE u ≤ Rows.uptoBulk y.1)
    (h : DataW.trod enc P w base (fun _ => true) held fuel t cs = some x) :
    ∃ (A : Option Addr) (c : Nat) (l : List α), cs = [.slice A l.length c] ∧ Kd.C kE w A l.length l ∧ l.length ≤ c ∧ (∀ u ∈ l, inE u) ∧ (l.map wtE).sum + 1 ≤ Rows.uptoBulk x.1 := by
  rcases open_slice ht h with ⟨hcs, hx⟩ | ⟨a, len, cap, m, n, D, Pl, hcs, hb, hl, hm, hmm, hx, hi⟩
  · exact ⟨none, 0, [], hcs, Kd.C_nil _ _, Nat.le_refl _, fun x hx => (List.not_mem_nil hx).elim, by simp only [List.map_nil, List.sum_nil]; exact one_le _⟩
  · rw [if_pos rfl] at hmm
    obtain rfl := hmm.symm
    obtain ⟨l, hll, hq⟩ := exists_list len (fun i (u : α) => (∃ cs', kE.K w u cs' ∧ cs'.length = kE.sz ∧ ∀ j v, cs'[j]? = some v → w.cell? (a.add (i * kE.sz + j)) = some v) ∧ inE u ∧ wtE u ≤ Rows.uptoBulk (D i)) (fun i hil => by
      obtain ⟨cs', hc, ht'⟩ := hi i (by omega)
      rw [hC] at hc
      obtain ⟨_, hcl, hat⟩ := World.cells?_some hc
      obtain ⟨u, hu1, hu2, hu3⟩ := hE n cs' _ ht'
      refine ⟨u, ⟨cs', hu1, hcl, fun j v hv => ?_⟩, hu2, hu3⟩
      have hjl : j < kE.sz := by rw [← hcl]; exact (List.getElem?_eq_some_iff.1 hv).1
      rw [← Go.Deep.add_add, hat j hjl, hv])
    have hmx : maxLen = 9223372036854775807 := rfl
    refine ⟨some a, cap, l, by rw [hcs, hll], ⟨rfl, by omega, fun _ => ⟨a, rfl, fun j u hj => ?_⟩⟩, by omega, fun u hu => ?_, ?_⟩
    · obtain ⟨⟨cs', h1, h2, h3⟩, _, _⟩ := hq j u hj
      exact ⟨cs', h2, h1, h3⟩
    · obtain ⟨j, hj⟩ := List.getElem?_of_mem hu
      exact (hq j u hj).2.1
    · obtain rfl := hx
      rw [Rows.uptoBulk]
      have := bulk_le wtE l ((List.range len).map D) (by simp [hll]) (fun j u d h1 h2 => by
        have hj : j < len := by rw [← hll]; exact (List.getElem?_eq_some_iff.1 h1).1
        rw [List.getElem?_map, List.getElem?_range hj] at h2
        obtain rfl : D j = d := by simpa using h2
        exact (hq j u h1).2.2)
      omega
theorem k_int {w : World} {k : IntKind} (n : Int) : (Kd.int k).K w n [.int k n] := rfl
theorem k_str {w : World} (n : ByteArray) : Kd.string.K w n [.string n] := rfl
theorem k_bool {w : World} (n : Bool) : Kd.bool.K w n [.bool n] := rfl
theorem k_slice {w : World} {α : Type} {d : Kd α} {e : Nat} {A : Option Addr} {c : Nat} {l : List α} (hl : l.length ≤ c) (h : Kd.C d w A l.length l) : (Kd.slice e d).K w l [.slice A l.length c] := ⟨A, c, rfl, hl, h⟩

def in43 (x : S43) : Prop := True
def wt43 (x : S43) : Nat := (x.f0.size + 1) + (x.f1.size + 1) + 1
set_option maxRecDepth 100000 in
theorem op43 {H : Type} {enc : TypeId × Value → H} {w : World} {base : Nat} {held : Bool} {fuel : Nat} {cs : List Value} {y : DataW H × List MemPlace} (h : DataW.trod enc Try.prog w base (fun _ => true) held fuel 43 cs = some y) : ∃ (x : S43), cs = [.string x.f0, .string x.f1] ∧ in43 x ∧ wt43 x ≤ Rows.uptoBulk y.1 := by
  obtain ⟨ys, n, _, rfl, hlen, hyl, hf⟩ := DataW.trod_struct Try.underlying43 h
  rw [show Try.prog.cellsOf 43 = 2 from by kernel_rfl] at hlen
  match cs, hlen with
  | [q0, q1], _ =>
    match ys, hyl with
    | [y0, y1], _ =>
      have g0 : DataW.trod enc Try.prog w base (fun _ => true) held n 9 [q0] = some y0 := by have g := hf 0 _ rfl; simpa [show Try.prog.cellsOf 9 = 1 from by kernel_rfl] using g
      obtain ⟨z0, e0, r0, _⟩ := DataW.trod_string (by kernel_rfl) g0
      have u0 : z0.size + 1 ≤ Rows.uptoBulk y0.1 := by rw [r0]; exact Nat.le_of_eq (lit_str _).symm
      simp only [List.cons.injEq, and_true] at e0
      obtain rfl := e0
      have g1 : DataW.trod enc Try.prog w base (fun _ => true) held n 9 [q1] = some y1 := by have g := hf 1 _ rfl; simpa [show Try.prog.cellsOf 9 = 1 from by kernel_rfl] using g
      obtain ⟨z1, e1, r1, _⟩ := DataW.trod_string (by kernel_rfl) g1
      have u1 : z1.size + 1 ≤ Rows.uptoBulk y1.1 := by rw [r1]; exact Nat.le_of_eq (lit_str _).symm
      simp only [List.cons.injEq, and_true] at e1
      obtain rfl := e1
      refine ⟨⟨z0, z1⟩, rfl, trivial, ?_⟩
      simp only [List.map_cons, List.map_nil, Rows.uptoBulk, Rows.uptoBulkAll]; unfold wt43; simp only []; omega
theorem kk43 {H : Type} {enc : TypeId × Value → H} {w : World} {base : Nat} {held : Bool} {fuel : Nat} {cs : List Value} {y : DataW H × List MemPlace} (h : DataW.trod enc Try.prog w base (fun _ => true) held fuel 43 cs = some y) : ∃ x : S43, k43.K w x cs ∧ in43 x ∧ wt43 x ≤ Rows.uptoBulk y.1 := by
  obtain ⟨x, rfl, h1, h2⟩ := op43 h
  exact ⟨x, k43_mk w x , h1, h2⟩
def in9 (x : ByteArray) : Prop := True
def wt9 (x : ByteArray) : Nat := (x.size + 1)
theorem kk9 {H : Type} {enc : TypeId × Value → H} {w : World} {base : Nat} {held : Bool} {fuel : Nat} {cs : List Value} {y : DataW H × List MemPlace} (h : DataW.trod enc Try.prog w base (fun _ => true) held fuel 9 cs = some y) : ∃ n : ByteArray, Kd.string.K w n cs ∧ in9 n ∧ wt9 n ≤ Rows.uptoBulk y.1 := by obtain ⟨n, rfl, rfl, _⟩ := DataW.trod_string (by kernel_rfl) h; exact ⟨n, k_str n, trivial, Nat.le_of_eq (lit_str _).symm⟩
def in3 (x : Int) : Prop := (-9223372036854775808 ≤ x ∧ x < 9223372036854775808)
def wt3 (x : Int) : Nat := 1
theorem op3 {H : Type} {enc : TypeId × Value → H} {w : World} {base : Nat} {held : Bool} {fuel : Nat} {cs : List Value} {y : DataW H × List MemPlace} (h : DataW.trod enc Try.prog w base (fun _ => true) held fuel 3 cs = some y) : ∃ n : Int, cs = [.int .i64 n] ∧ in3 n ∧ wt3 n ≤ Rows.uptoBulk y.1 := by
  obtain ⟨n, rfl, rfl, hw⟩ := DataW.trod_int (k := .i64) (by kernel_rfl) h
  refine ⟨n, rfl, ?_, Nat.le_of_eq (lit_int _ _).symm⟩
  have h1 : IntKind.min .i64 = -9223372036854775808 := by decide
  have h2 : IntKind.max .i64 = 9223372036854775807 := by decide
  simp [Lit.wf, h1, h2] at hw; unfold in3; omega
theorem kk3 {H : Type} {enc : TypeId × Value → H} {w : World} {base : Nat} {held : Bool} {fuel : Nat} {cs : List Value} {y : DataW H × List MemPlace} (h : DataW.trod enc Try.prog w base (fun _ => true) held fuel 3 cs = some y) : ∃ n : Int, (Kd.int .i64).K w n cs ∧ in3 n ∧ wt3 n ≤ Rows.uptoBulk y.1 := by obtain ⟨n, rfl, h1, h2⟩ := op3 h; exact ⟨n, k_int n, h1, h2⟩
structure S26 where
  f0 : Bool
  f1 : (List S43)
  f2 : (List ByteArray)
  f3 : (List Int)
def in26 (x : S26) : Prop := (∀ y ∈ x.f1, in43 y) ∧ (∀ y ∈ x.f2, in9 y) ∧ (∀ y ∈ x.f3, in3 y)
def wt26 (x : S26) : Nat := 1 + ((x.f1.map wt43).sum + 1) + ((x.f2.map wt9).sum + 1) + ((x.f3.map wt3).sum + 1) + 1
set_option maxRecDepth 100000 in
theorem op26 {H : Type} {enc : TypeId × Value → H} {w : World} {base : Nat} {held : Bool} {fuel : Nat} {cs : List Value} {y : DataW H × List MemPlace} (h : DataW.trod enc Try.prog w base (fun _ => true) held fuel 26 cs = some y) : ∃ (x : S26) (A1 : Option Addr) (c1 : Nat) (A2 : Option Addr) (c2 : Nat) (A3 : Option Addr) (c3 : Nat), cs = [.bool x.f0, .slice A1 x.f1.length c1, .slice A2 x.f2.length c2, .slice A3 x.f3.length c3] ∧ Kd.C k43 w A1 x.f1.length x.f1 ∧ x.f1.length ≤ c1 ∧ Kd.C Kd.string w A2 x.f2.length x.f2 ∧ x.f2.length ≤ c2 ∧ Kd.C (Kd.int .i64) w A3 x.f3.length x.f3 ∧ x.f3.length ≤ c3 ∧ in26 x ∧ wt26 x ≤ Rows.uptoBulk y.1 := by
  obtain ⟨ys, n, _, rfl, hlen, hyl, hf⟩ := DataW.trod_struct Try.underlying26 h
  rw [show Try.prog.cellsOf 26 = 4 from by kernel_rfl] at hlen
  match cs, hlen with
  | [q0, q1, q2, q3], _ =>
    match ys, hyl with
    | [y0, y1, y2, y3], _ =>
      have g0 : DataW.trod enc Try.prog w base (fun _ => true) held n 4 [q0] = some y0 := by have g := hf 0 _ rfl; simpa [show Try.prog.cellsOf 4 = 1 from by kernel_rfl] using g
      obtain ⟨z0, e0, r0⟩ := DataW.trod_bool (by kernel_rfl) g0
      have u0 : 1 ≤ Rows.uptoBulk y0.1 := by rw [r0]; exact Nat.le_of_eq (lit_bool _).symm
      simp only [List.cons.injEq, and_true] at e0
      obtain rfl := e0
      have g1 : DataW.trod enc Try.prog w base (fun _ => true) held n 22 [q1] = some y1 := by have g := hf 1 _ rfl; simpa [show Try.prog.cellsOf 22 = 1 from by kernel_rfl] using g
      obtain ⟨B1, d1, z1, e1, hC1, hc1, r1_, u1⟩ := open_sl k43 in43 wt43 (by kernel_rfl) (by kernel_rfl) (fun _ _ _ h' => kk43 h') g1
      simp only [List.cons.injEq, and_true] at e1
      obtain rfl := e1
      have g2 : DataW.trod enc Try.prog w base (fun _ => true) held n 23 [q2] = some y2 := by have g := hf 2 _ rfl; simpa [show Try.prog.cellsOf 23 = 1 from by kernel_rfl] using g
      obtain ⟨B2, d2, z2, e2, hC2, hc2, r2_, u2⟩ := open_sl Kd.string in9 wt9 (by kernel_rfl) (by kernel_rfl) (fun _ _ _ h' => kk9 h') g2
      simp only [List.cons.injEq, and_true] at e2
      obtain rfl := e2
      have g3 : DataW.trod enc Try.prog w base (fun _ => true) held n 24 [q3] = some y3 := by have g := hf 3 _ rfl; simpa [show Try.prog.cellsOf 24 = 1 from by kernel_rfl] using g
      obtain ⟨B3, d3, z3, e3, hC3, hc3, r3_, u3⟩ := open_sl (Kd.int .i64) in3 wt3 (by kernel_rfl) (by kernel_rfl) (fun _ _ _ h' => kk3 h') g3
      simp only [List.cons.injEq, and_true] at e3
      obtain rfl := e3
      refine ⟨⟨z0, z1, z2, z3⟩, B1, d1, B2, d2, B3, d3, rfl, hC1, hc1, hC2, hc2, hC3, hc3, ⟨r1_, r2_, r3_⟩, ?_⟩
      simp only [List.map_cons, List.map_nil, Rows.uptoBulk, Rows.uptoBulkAll]; unfold wt26; simp only []; omega
end Go.Proofs.Ytokjbncjapndgaa.XA
