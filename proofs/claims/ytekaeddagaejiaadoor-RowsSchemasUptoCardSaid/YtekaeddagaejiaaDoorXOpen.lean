/- Arguments that are slices of values, opened: the row, what each value is, how great it is. And what the bound gives. No conditions. -/
import Derived.Test.YtekaeddagaejiaaDoorCards
import Derived.Test.YtekaeddagaejiaaDoorPAllx0
import Derived.WalkKit
import Derived.Deep.Slices
import Derived.Deep.Fields
import Derived.ChangeSame
import Derived.OpenShut
import Derived.ShutString
import Derived.ProofKit
namespace Go.Proofs.YtekaeddagaejiaaDoor.XO
open Go.ChangeShapes Go.WideShapes Go.Deep Go.RowKit Go.Proofs.YtekaeddagaejiaaDoorW.PrintWords Go.Proofs.YtekaeddagaejiaaDoor.PAll
section
variable {H : Type} {enc : TypeId × Value → H} {P : Program} {w : World} {base : Nat} {spare : Nat → Bool} {held : Bool}
theorem open_slice_fields {t e : TypeId} {fs : Array Field} {fuel : Nat} {cs : List Value} {x : DataW H × List MemPlace} (ht : P.underlying t = some (.slice e)) (he : P.underlying e = some (.struct fs))
    (hone : oneCellFields P fs = true) (hC : P.cellsOf e = fs.size) (h : DataW.trod enc P w base spare held fuel t cs = some x) :
    (cs = [.slice none 0 0] ∧ x = (.nil, [])) ∨
    ∃ (a : Addr) (len cap m : Nat) (D : Nat → DataW H) (Pl : Nat → List MemPlace), cs = [.slice (some a) len cap] ∧ base ≤ a.block ∧ len ≤ cap ∧ cap ≤ maxLen ∧ m = (if spare a.block then cap else len) ∧
      x = (.slice ((List.range len).map D) ((List.range (m - len)).map fun j => D (len + j)), MemPlace.row a (m * fs.size) ++ (List.range m).flatMap Pl) ∧
      ∀ i, i < m → ∃ (ys : List (DataW H × List MemPlace)) (n : Nat), D i = .agg (ys.map (·.1)) ∧ Pl i = ys.flatMap (·.2) ∧ ys.length = fs.size ∧
        ∀ (j : Nat) (f : Field), fs[j]? = some f → ∃ (v : Value) (y : DataW H × List MemPlace), w.cell? (a.add (i * fs.size + j)) = some v ∧ ys[j]? = some y ∧ DataW.trod enc P w base spare held n f.type [v] = some y := by
  rcases open_slice ht h with h0 | ⟨a, len, cap, m, n, D, Pl, hcs, hb, hl, hm, hmm, hx, hi⟩
  · exact .inl h0
  · refine .inr ⟨a, len, cap, m, D, Pl, hcs, hb, hl, hm, hmm, by rw [hC] at hx; exact hx, fun i him => ?_⟩
    obtain ⟨cs', hc, ht'⟩ := hi i him
    rw [hC] at hc
    obtain ⟨ys, n', hn', hy, hlen, hyl, hf⟩ := DataW.trod_struct he ht'
    obtain ⟨_, hcl, hat⟩ := World.cells?_some hc
    simp only [Prod.mk.injEq] at hy
    refine ⟨ys, n', hy.1, hy.2, hyl, fun j f hj => ?_⟩
    obtain ⟨ho, hk⟩ := hone_of hone j f hj
    have hjl : j < fs.size := (Array.getElem?_eq_some_iff.1 hj).1
    have hcell := hat j hjl
    have hv : cs'[j]? = some (cs'[j]'(by omega)) := List.getElem?_eq_getElem (by omega)
    have h1 := hf j f hj
    rw [ho, hk] at h1
    have hone' : (cs'.drop j).take 1 = [cs'[j]'(by omega)] := by
      rw [List.drop_eq_getElem_cons (by omega)]
      rfl
    rw [hone'] at h1
    have hys : ys[j]? = some (ys[j]'(by omega)) := List.getElem?_eq_getElem (by omega)
    refine ⟨_, _, ?_, hys, h1.trans hys⟩
    rw [← Go.Deep.add_add, hcell, hv]
end
theorem one_le {H : Type} (d : DataW H) : 1 ≤ Rows.uptoBulk d := by
  cases d with
  | lit l => cases l <;> simp [Rows.uptoBulk]
  | nil => simp [Rows.uptoBulk]
  | ptr d => simp [Rows.uptoBulk]
  | slice elems spare => simp [Rows.uptoBulk]
  | agg parts => simp [Rows.uptoBulk]
  | iface t d => simp [Rows.uptoBulk]
  | map entries => simp [Rows.uptoBulk]
  | held h => simp [Rows.uptoBulk]
theorem bound {H : Type} {l : List (DataW H)} (hk : Rows.uptoSmall H l = true) : Rows.uptoBulkAll l ≤ 1048576 := by
  simpa [Rows.uptoSmall] using hk
theorem string_bulk {H : Type} (a : ByteArray) : Rows.uptoBulk (DataW.lit (H := H) (.string a.data.toList)) = a.size + 1 := by
  rw [Lib.size_eq]; simp [Rows.uptoBulk]
theorem exists_list {α : Type} : ∀ (n : Nat) (Q : Nat → α → Prop), (∀ i, i < n → ∃ x, Q i x) → ∃ l : List α, l.length = n ∧ ∀ j x, l[j]? = some x → Q j x := by
  intro n
  induction n with
  | zero => intro Q _; exact ⟨[], rfl, fun j x h => by simp at h⟩
  | succ n ih =>
    intro Q h
    obtain ⟨l, hl, hq⟩ := ih Q (fun i hi => h i (by omega))
    obtain ⟨x, hx⟩ := h n (by omega)
    refine ⟨l ++ [x], by simp [hl], fun j y hy => ?_⟩
    rcases Nat.lt_or_ge j l.length with hj | hj
    · rw [List.getElem?_append_left hj] at hy; exact hq j y hy
    · rw [List.getElem?_append_right hj] at hy
      have : j - l.length = 0 := by
        rcases Nat.eq_zero_or_pos (j - l.length) with h0 | h0
        · exact h0
        · rw [List.getElem?_eq_none (by simp; omega)] at hy; cases hy
      rw [this] at hy
      obtain rfl : x = y := by simpa using hy
      obtain rfl : j = n := by omega
      exact hx
/-- a value that came in: its numbers fit -/
def inV (v : S29) : Prop := (-9223372036854775808 ≤ v.f0 ∧ v.f0 < 9223372036854775808) ∧ (-9223372036854775808 ≤ v.f1 ∧ v.f1 < 9223372036854775808)
def bulkV (l : List S29) : Nat := (l.map fun v => v.f2.size + 4).sum
def dataV {H : Type} (v : S29) : DataW H := .agg [.lit (.int .i64 v.f0), .lit (.int .i64 v.f1), .lit (.string v.f2.data.toList)]
theorem bulk_data {H : Type} (v : S29) : Rows.uptoBulk (dataV (H := H) v) = v.f2.size + 4 := by
  rw [Lib.size_eq]; simp [dataV, Rows.uptoBulk, Rows.uptoBulkAll]; omega
theorem bulk_all {H : Type} (l : List S29) : Rows.uptoBulkAll (l.map (dataV (H := H))) = bulkV l := by
  induction l with
  | nil => rfl
  | cons v r ih => rw [List.map_cons, Rows.uptoBulkAll, ih, bulk_data]; simp [bulkV]
theorem wf_i64 {n : Int} (h : (Lit.int .i64 n).wf = true) : -9223372036854775808 ≤ n ∧ n < 9223372036854775808 := by
  have h1 : IntKind.min .i64 = -9223372036854775808 := by decide
  have h2 : IntKind.max .i64 = 9223372036854775807 := by decide
  simp [Lit.wf, h1, h2] at h; omega
set_option maxRecDepth 100000 in
theorem open_vals {H : Type} {enc : TypeId × Value → H} {w : World} {base b0 : Nat} {r : Reach} {held : Bool} {v : Value} {d : DataW H} {p : List MemPlace} (hv : Value.okWide Tryd.prog w r b0 25 v)
    (h : DataW.Trod enc Tryd.prog w base (fun _ => true) held 25 v d p) :
    ∃ (A : Option Addr) (c : Nat) (l : List S29), v = .slice A l.length c ∧ Kd.C k29 w A l.length l ∧ l.length ≤ c ∧ (∀ x ∈ l, inV x) ∧ bulkV l + 1 ≤ Rows.uptoBulk d := by
  obtain ⟨a, len, cap, rfl⟩ := okWide_slice Tryd.underlying25 hv
  obtain ⟨fuel, hf⟩ := h
  rcases open_slice_fields Tryd.underlying25 Tryd.underlying29 (by kernel_rfl) (by kernel_rfl) hf with ⟨hcs, hx⟩ | ⟨a, len, cap, m, D, Pl, hcs, hb, hl, hm, hmm, hx, hi⟩
  · simp [Value.cells] at hcs
    obtain ⟨rfl, rfl, rfl⟩ := hcs
    exact ⟨none, 0, [], rfl, Kd.C_nil _ _, Nat.le_refl _, fun x hx => (List.not_mem_nil hx).elim, by rw [show bulkV [] = 0 from rfl]; exact one_le d⟩
  · simp [Value.cells] at hcs
    obtain ⟨rfl, rfl, rfl⟩ := hcs
    rw [if_pos rfl] at hmm
    obtain rfl := hmm.symm
    obtain ⟨l, hll, hq⟩ := exists_list len (fun i (x : S29) => w.cell? (a.add (i * 3 + 0)) = some (.int .i64 x.f0) ∧ w.cell? (a.add (i * 3 + 1)) = some (.int .i64 x.f1) ∧ w.cell? (a.add (i * 3 + 2)) = some (.string x.f2) ∧ D i = dataV x ∧ inV x) (fun i hil => by
      obtain ⟨ys, n, hD, hP, hyl, hfs⟩ := hi i (by omega)
      obtain ⟨v0, y0, hc0, hy0, ht0⟩ := hfs 0 _ rfl
      obtain ⟨v1, y1, hc1, hy1, ht1⟩ := hfs 1 _ rfl
      obtain ⟨v2, y2, hc2, hy2, ht2⟩ := hfs 2 _ rfl
      obtain ⟨n0, e0, rfl, hw0⟩ := DataW.trod_int (k := .i64) (by kernel_rfl) ht0
      obtain ⟨n1, e1, rfl, hw1⟩ := DataW.trod_int (k := .i64) (by kernel_rfl) ht1
      obtain ⟨s, e2, rfl, hs⟩ := DataW.trod_string (by kernel_rfl) ht2
      simp only [List.cons.injEq, and_true] at e0 e1 e2
      subst e0 e1 e2
      refine ⟨⟨n0, n1, s⟩, hc0, hc1, hc2, ?_, wf_i64 hw0, wf_i64 hw1⟩
      match ys, hyl with
      | [z0, z1, z2], _ =>
        simp at hy0 hy1 hy2
        subst hy0 hy1 hy2
        rw [hD]; rfl)
    have hmx : maxLen = 9223372036854775807 := rfl
    have hDl : (List.range len).map D = l.map dataV := by
      apply List.ext_getElem
      · simp [hll]
      · intro j h1 h2
        simp only [List.getElem_map, List.getElem_range]
        have hj : j < l.length := by simpa using h2
        exact (hq j l[j] (List.getElem?_eq_getElem hj)).2.2.2.1
    refine ⟨some a, _, l, by rw [hll], ⟨rfl, by omega, fun _ => ⟨a, rfl, fun j x hj => ?_⟩⟩, by omega, fun x hx => ?_, ?_⟩
    · obtain ⟨h0, h1, h2, _, _⟩ := hq j x hj
      refine ⟨_, rfl, k29_mk w x, fun i u hu => ?_⟩
      match i, hu with
      | 0, hu => simp at hu; subst hu; exact h0
      | 1, hu => simp at hu; subst hu; exact h1
      | 2, hu => simp at hu; subst hu; exact h2
    · obtain ⟨j, hj⟩ := List.getElem?_of_mem hx
      exact (hq j x hj).2.2.2.2
    · simp only [Prod.mk.injEq] at hx
      obtain ⟨rfl, _⟩ := hx
      rw [Rows.uptoBulk, hDl, bulk_all]; omega
end Go.Proofs.YtekaeddagaejiaaDoor.XO
