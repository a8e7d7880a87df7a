/- Words that the contracts of this seat share: plain lemmas. No conditions. -/
import Derived.RowKit
import Derived.RowKit3
import Derived.Below
import Derived.Laws.BitsLemmas
import Derived.Lib.ConvBytes
import Derived.Lib.Hide
import Derived.Laws.Tables
import Derived.Laws.AppendOwn
namespace Go.Proofs.YtnlfppfdfdopiaaDoor.XW
open Go.RowKit

theorem isEmpty_bne (l : List UInt8) : l.isEmpty = !(l != []) := by cases l <;> rfl
theorem not_isEmpty_bne (l : List UInt8) : (!l.isEmpty) = (l != []) := by cases l <;> rfl
theorem isEmpty_beq (l : List UInt8) : l.isEmpty = (l == []) := by cases l <;> rfl

/-- the number that bytes are, the first the most -/
def beStep (n : Int) (c : UInt8) : Int := (n * 256 + c.toNat) % 18446744073709551616
def beNum (l : List UInt8) : Int := l.foldl beStep 0
theorem beNum_snoc (l : List UInt8) (c : UInt8) : beNum (l ++ [c]) = beStep (beNum l) c := by simp [beNum]
theorem beFold_bd (l : List UInt8) : ∀ n : Int, 0 ≤ n ∧ n < 18446744073709551616 → 0 ≤ l.foldl beStep n ∧ l.foldl beStep n < 18446744073709551616 := by
  induction l with
  | nil => intro n h; simpa using h
  | cons c r ih => intro n h; rw [List.foldl_cons]; exact ih _ (by unfold beStep; omega)
theorem beNum_bd (l : List UInt8) : 0 ≤ beNum l ∧ beNum l < 18446744073709551616 := beFold_bd l 0 (by omega)
theorem wraps_u64 (n : Int) (h₀ : 0 ≤ n) (h₁ : n < 2 ^ 64) : IntKind.u64.wrap n = n := by
  simp [IntKind.wrap, IntKind.bits, IntKind.signed]; omega
theorem u64_in (n : Int) (h₀ : 0 ≤ n) (h₁ : n < 18446744073709551616) : IntKind.u64.wrap n = n := wraps_u64 n h₀ h₁
/-- a number moved on by a byte, and the byte -/
theorem or_byte (n : Int) (c : UInt8) : Go.bits .or .u64 (n * 256 % 18446744073709551616) (c.toNat : Int) = beStep n c := by
  have hc := c.toNat_lt
  refine (bits_join .u64 64 (by decide) wraps_u64 8 (n * 256 % 18446744073709551616) (c.toNat : Int) (by omega) (by omega) (by omega) (by omega) (by omega) (by omega)).trans ?_
  unfold beStep; omega
theorem or_byte_w (n : Int) (c : UInt8) : Go.bits .or .u64 (IntKind.u64.wrap (n * 256)) (IntKind.u64.wrap (c.toNat : Int)) = beStep n c := by
  have hc := c.toNat_lt
  rw [wraps_u64 (c.toNat : Int) (by omega) (by omega), ← or_byte]
  congr 1
theorem take_succ_getD (l : List UInt8) (j : Nat) (h : j < l.length) : l.take (j + 1) = l.take j ++ [l.getD j 0] := by
  rw [List.take_succ_eq_append_getElem h, List.getD_eq_getElem?_getD, List.getElem?_eq_getElem h]; rfl
theorem bytesWorld_below (w : World) (e : TypeId) (s : ByteArray) : Below w.heap.size w (Lib.bytesWorld w e s) :=
  ⟨rfl, rfl, rfl, by rw [Lib.bytesWorld_size]; omega, fun k hk => Lib.bytesWorld_at_old w e s k hk⟩
theorem take_succ_get (s : ByteArray) (j : Nat) (h : j < s.size) : s.data.toList.take (j + 1) = s.data.toList.take j ++ [s[j]] := by
  rw [List.take_succ_eq_append_getElem (by simpa using h)]; rfl
theorem bl_asymm : ∀ a b : List UInt8, Op.bytesLess a b = true → Op.bytesLess b a = false := by
  intro a
  induction a with
  | nil => intro b h; cases b <;> simp_all [Op.bytesLess]
  | cons x a ih =>
    intro b h
    cases b with
    | nil => simp [Op.bytesLess] at h
    | cons y b =>
      rw [Op.bytesLess] at h ⊢
      by_cases h1 : x < y
      · have h2 : ¬ y < x := by simp only [UInt8.lt_iff_toNat_lt] at *; omega
        have h3 : ¬ y = x := by rintro rfl; exact h2 h1
        simp [h2, h3]
      · by_cases h2 : x = y
        · subst h2; simp [h1] at h ⊢; exact ih b h
        · simp [h1, h2] at h
theorem bl_yes {a b : List UInt8} (h : Op.bytesLess a b = true) : Op.bytesLess b a = false := bl_asymm a b h
theorem bl_irrefl (a : List UInt8) : Op.bytesLess a a = false := by
  cases h : Op.bytesLess a a with
  | false => rfl
  | true => have := bl_asymm a a h; rw [h] at this; cases this
theorem bl_yes2 {a b : List UInt8} (h : Op.bytesLess a b = true) : (b == a) = false := by
  rw [beq_eq_false_iff_ne]; rintro rfl; rw [bl_irrefl] at h; cases h
theorem bl_no2 : ∀ {a b : List UInt8}, Op.bytesLess a b = false → (Op.bytesLess b a || b == a) = true := by
  intro a
  induction a with
  | nil => intro b h; cases b <;> simp_all [Op.bytesLess]
  | cons x a ih =>
    intro b h
    cases b with
    | nil => simp [Op.bytesLess]
    | cons y b =>
      rw [Op.bytesLess] at h ⊢
      by_cases h1 : x < y
      · simp [h1] at h
      · by_cases h2 : x = y
        · subst h2
          simp [h1] at h ⊢
          simpa using ih h
        · have h3 : y < x := by
            have : x.toNat ≠ y.toNat := fun e => h2 (UInt8.toNat_inj.1 e)
            simp only [UInt8.lt_iff_toNat_lt] at *; omega
          simp [h3]
theorem bl_no {a b : List UInt8} (h : Op.bytesLess a b = false) : (Op.bytesLess b a = true ∨ (b == a) = true) = True := by
  have := bl_no2 h
  rw [Bool.or_eq_true] at this
  exact eq_true this
/-- four stores into one block: another block's cells stand -/
theorem far4 {W : World} {g a b c d k o : Nat} {e : Option Nat} {u v x y : Value} (h : k ≠ g) : ((((W.setCell ⟨g, a, none⟩ u).setCell ⟨g, b, none⟩ v).setCell ⟨g, c, none⟩ x).setCell ⟨g, d, none⟩ y).cell? ⟨k, o, e⟩ = W.cell? ⟨k, o, e⟩ := by
  have f : ∀ (W : World) (i : Nat) (z : Value), (W.setCell ⟨g, i, none⟩ z).cell? ⟨k, o, e⟩ = W.cell? ⟨k, o, e⟩ := by
    intro W i z
    have := Below.heap_setCell W ⟨g, i, none⟩ z k h
    simp [World.cell?, this]
  rw [f, f, f, f]
/-- a whole value stored into a variable: its block holds it, all else stands as it stood -/
theorem store_all {P : Program} {ops : Array Oper} {rest : List Oper} {o : Oper} {a : Act} {W : World} {Q : Exit → Act → World → Prop} (t : TypeId) {x y : Operand} (g : Nat) (e : TypeId) (cs cs' : Array Value)
    (hgd : o.guard = none) (ho : o.op = .store t x y) (hx : a.eval x = .pointer (some ⟨g, 0, none⟩)) (hy : a.eval y = .agg cs') (hb : W.heap[g]? = some (.cells cs e (0, 0)))
    (hi : (P.info? t).map (·.size) = some cs'.size) (hs : cs.size = cs'.size) (h1 : cs'.all (·.oneCell') = true)
    (h : ∀ w1 : World, w1.heap[g]? = some (.cells cs' e (0, 0)) → W.grownBy w1 (some g) → wpList P ops Q rest (a.put o.dst undef) w1) : wpList P ops Q (o :: rest) a W := by
  refine wpList_store_row hgd t x y ho g cs' hx hy e cs hb hi hs h1 (h _ (setRow_heap W g cs cs' e (0, 0) hb) ⟨rfl, rfl, rfl, ?_, ?_⟩)
  · unfold World.setRow; simp
  · intro k hk hn
    have hne : g ≠ k := fun z => hn (by rw [z])
    unfold World.setRow
    simp only [Array.getElem?_modify]
    rw [if_neg hne]
end Go.Proofs.YtnlfppfdfdopiaaDoor.XW
namespace Go.Proofs.YtnlfppfdfdopiaaDoor.XLib
/-- the namespace is there, whatever else is laid -/
theorem here : True := trivial
end Go.Proofs.YtnlfppfdfdopiaaDoor.XLib
