/- Nodes out of pages: the document's answer reads what the program reads, and a node is itself. Plain laws over the printed functions. No conditions. -/
import Derived.Test.YtokjbncjapndgaaDoorXNodeS
namespace Go.Proofs.YtokjbncjapndgaaDoor.XN
open Go.RowKit Go.Proofs.YtokjbncjapndgaaDoor.XW Go.Proofs.YtokjbncjapndgaaDoor.XLib Go.Proofs.YtokjbncjapndgaaDoor.PAll Go.Proofs.YtokjbncjapndgaaDoorW.PrintWords Go.Proofs.YtokjbncjapndgaaDoorW.PrintLast Go.Proofs.YtokjbncjapndgaaDoor.XP
/-- what is read is small -/
theorem read_bd (S : ByteArray) : Bd (readP S).2.1 (readP S).2.2.1 (readP S).2.2.2.1 := by
  by_cases hp : (readP S).2.2.2.2 = 0
  · obtain ⟨q1, q2, _⟩ := writeN_ok (p_sound S hp)
    generalize readP S = t at *
    obtain ⟨leaf, ps, ks, kids, e⟩ := t
    simp only at *
    unfold sizeN at q2
    have h1 := len_sumK ks
    cases leaf with
    | true =>
      rw [if_pos rfl] at q2
      obtain ⟨rfl, rfl, _⟩ := right_leaf_of q1
      exact ⟨by omega, Nat.zero_le _, Nat.zero_le _⟩
    | false =>
      rw [if_neg (show ¬ (false = true) by decide)] at q2
      obtain ⟨rfl, hl, _⟩ := right_inner_of q1
      exact ⟨Nat.zero_le _, by omega, by omega⟩
  · rw [p_bad S hp]; exact ⟨Nat.zero_le _, Nat.zero_le _, Nat.zero_le _⟩
/-! ## a node is itself -/
theorem same2 (a : Bool) (ps : List Pr) (ks : List ByteArray) (kids : List Int) (hl : kids.length ≤ BIG) : ∀ m i k : Nat, i + m = kids.length → factotumref09_Same.l2 (k + m + 1) (i : Int) a ps ks kids a ps ks kids = some true := by
  unfold BIG at hl
  intro m
  induction m with
  | zero =>
    intro i k hi
    simp only [factotumref09_Same.l2]
    rw [if_neg (by omega)]
  | succ m ih =>
    intro i k hi
    rw [show k + (m + 1) + 1 = (k + m + 1) + 1 by omega]
    generalize hK : k + m + 1 = K
    simp only [factotumref09_Same.l2]
    subst hK
    rw [if_pos (by omega), if_pos (by omega), if_pos (by omega), if_pos trivial, nexti i (by omega), ih (i + 1) k (by omega)]
theorem same1 (a : Bool) (ps : List Pr) (ks : List ByteArray) (kids : List Int) (hk : ks.length ≤ BIG) (hl : kids.length ≤ BIG) : ∀ m i k : Nat, i + m = ks.length → kids.length + 1 ≤ k → factotumref09_Same.l1 (k + m + 1) (i : Int) a ps ks kids a ps ks kids = some true := by
  have hk' := hk
  unfold BIG at hk'
  intro m
  induction m with
  | zero =>
    intro i k hi hf
    simp only [factotumref09_Same.l1]
    rw [if_neg (by omega)]
    have := same2 a ps ks kids hl kids.length 0 (k - kids.length - 1) (by omega)
    rw [show k - kids.length - 1 + kids.length + 1 = k by omega] at this
    exact this
  | succ m ih =>
    intro i k hi hf
    rw [show k + (m + 1) + 1 = (k + m + 1) + 1 by omega]
    generalize hK : k + m + 1 = K
    simp only [factotumref09_Same.l1]
    subst hK
    rw [if_pos (by omega), if_pos (by omega), if_pos (by omega), if_pos trivial, nexti i (by omega), ih (i + 1) k (by omega) hf]
theorem same0 (a : Bool) (ps : List Pr) (ks : List ByteArray) (kids : List Int) (hp : ps.length ≤ BIG) (hk : ks.length ≤ BIG) (hl : kids.length ≤ BIG) : ∀ m i k : Nat, i + m = ps.length → ks.length + kids.length + 2 ≤ k → factotumref09_Same.l0 (k + m + 1) (i : Int) a ps ks kids a ps ks kids = some true := by
  have hp' := hp
  unfold BIG at hp'
  intro m
  induction m with
  | zero =>
    intro i k hi hf
    simp only [factotumref09_Same.l0]
    rw [if_neg (by omega)]
    have := same1 a ps ks kids hk hl ks.length 0 (k - ks.length - 1) (by omega) (by omega)
    rw [show k - ks.length - 1 + ks.length + 1 = k by omega] at this
    exact this
  | succ m ih =>
    intro i k hi hf
    rw [show k + (m + 1) + 1 = (k + m + 1) + 1 by omega]
    generalize hK : k + m + 1 = K
    simp only [factotumref09_Same.l0]
    subst hK
    rw [if_pos (by omega), if_pos (by omega), if_pos (by omega), if_neg (by simp), nexti i (by omega), ih (i + 1) k (by omega) hf]
theorem same (a : Bool) (ps : List Pr) (ks : List ByteArray) (kids : List Int) (hp : ps.length ≤ BIG) (hk : ks.length ≤ BIG) (hl : kids.length ≤ BIG) {k : Nat} (hf : ps.length + ks.length + kids.length + 5 ≤ k) : factotumref09_Same.f k a ps ks kids a ps ks kids = some true := by
  unfold factotumref09_Same.f
  obtain ⟨k, rfl⟩ : ∃ j, k = j + 1 := ⟨k - 1, by omega⟩
  rw [if_neg (by simp), if_pos rfl, if_pos rfl]
  simp only [factotumref09_Same.j0]
  rw [if_neg (by simp)]
  have := same0 a ps ks kids hp hk hl ps.length 0 (k - ps.length - 1) (by omega) (by omega)
  rw [show k - ps.length - 1 + ps.length + 1 = k by omega] at this
  exact this
theorem bd_len {ps : List Pr} {ks : List ByteArray} {kids : List Int} (h : Bd ps ks kids) : ps.length ≤ 10000000 ∧ ks.length ≤ 10000000 ∧ kids.length ≤ 10000000 := by
  have a := len_sumP ps
  have b := len_sumK ks
  obtain ⟨h1, h2, h3⟩ := h
  exact ⟨by omega, by omega, by omega⟩
theorem same_ (a : Bool) (ps : List Pr) (ks : List ByteArray) (kids : List Int) (h : Bd ps ks kids) {k : Nat} (hk : FUEL ≤ k) : factotumref09_Same.f k a ps ks kids a ps ks kids = some true := by
  obtain ⟨h1, h2, h3⟩ := bd_len h
  unfold FUEL at hk
  exact same a ps ks kids (by unfold BIG; omega) (by unfold BIG; omega) (by unfold BIG; omega) (by omega)
end Go.Proofs.YtokjbncjapndgaaDoor.XN
