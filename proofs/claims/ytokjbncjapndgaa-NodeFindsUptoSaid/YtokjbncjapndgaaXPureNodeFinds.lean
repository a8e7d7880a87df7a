/- The plain law of NodeFinds. Condition: the bulk's bound. -/
import Derived.Test.YtokjbncjapndgaaXNodeW
namespace Go.Proofs.Ytokjbncjapndgaa.XN
open Go.RowKit Go.Proofs.Ytokjbncjapndgaa.XW Go.Proofs.Ytokjbncjapndgaa.XLib Go.Proofs.Ytokjbncjapndgaa.PAll Go.Proofs.YtokjbncjapndgaaW.PrintWords Go.Proofs.YtokjbncjapndgaaW.PrintLast Go.Proofs.Ytokjbncjapndgaa.XP
/-- how many pairs are ahead of a key -/
def cntP (key : ByteArray) : List Pr → Nat
  | [] => 0
  | p :: ps => (if Op.bytesLess p.f0.toList key.toList = true then 1 else 0) + cntP key ps
def cntK (key : ByteArray) : List ByteArray → Nat
  | [] => 0
  | s :: ks => (if Op.bytesLess key.toList s.toList = true then 0 else 1) + cntK key ks
theorem cntP_le (key : ByteArray) : ∀ l, cntP key l ≤ l.length := by
  intro l
  induction l with
  | nil => exact Nat.le_refl _
  | cons p l ih => show _ + _ ≤ _; rw [List.length_cons]; split <;> omega
theorem cntK_le (key : ByteArray) : ∀ l, cntK key l ≤ l.length := by
  intro l
  induction l with
  | nil => exact Nat.le_refl _
  | cons p l ih => show _ + _ ≤ _; rw [List.length_cons]; split <;> omega
def foundAt (ps : List Pr) (key : ByteArray) (c : Nat) : Int × Bool := if c < ps.length then ((c : Int), ((ps.getD c z43).f0.toList == key.toList)) else ((c : Int), false)
theorem found_end (ps : List Pr) (key : ByteArray) (c : Nat) : (if (c : Int) < (ps.length : Int) then (if 0 ≤ (c : Int) then (some ((c : Int), (((rd_T43 ps (c : Int)).f0).toList == key.toList))) else (none)) else (some ((c : Int), false))) = some (foundAt ps key c) := by
  unfold foundAt
  by_cases h : c < ps.length
  · rw [if_pos (by omega), if_pos (by omega), if_pos h]; unfold rd_T43; rw [Int.toNat_natCast]
  · rw [if_neg (by omega), if_neg h]
theorem find_go (a : Bool) (ps : List Pr) (ks : List ByteArray) (kids : List Int) (key : ByteArray) (hl : ps.length ≤ BIG) : ∀ m i k c : Nat, i + m = ps.length → c ≤ i → node_Find.l0 (k + m + 1) key (c : Int) ps (ps.length : Int) (i : Int) a ps ks kids = some (foundAt ps key (c + cntP key (ps.drop i))) := by
  unfold BIG at hl
  intro m
  induction m with
  | zero =>
    intro i k c hi hc
    simp only [node_Find.l0]
    rw [if_neg (by omega), List.drop_eq_nil_of_le (by omega), found_end]; rfl
  | succ m ih =>
    intro i k c hi hc
    have hlt : i < ps.length := by omega
    rw [List.drop_eq_getElem_cons hlt]
    rw [show k + (m + 1) + 1 = (k + m + 1) + 1 by omega]
    generalize hK : k + m + 1 = K
    simp only [node_Find.l0]
    subst hK
    rw [if_pos (by omega), if_pos (by omega), if_pos (by omega), rdp ps i hlt, nexti i (by omega), nexti c (by omega)]
    show _ = some (foundAt ps key (c + ((if Op.bytesLess ps[i].f0.toList key.toList = true then 1 else 0) + cntP key (ps.drop (i + 1)))))
    by_cases h : Op.bytesLess ps[i].f0.toList key.toList = true
    · rw [if_pos h, if_pos h, ih (i + 1) k (c + 1) (by omega) (by omega), Nat.add_assoc]
    · rw [if_neg h, if_neg h, ih (i + 1) k c (by omega) (by omega), Nat.zero_add]
theorem p_find (a : Bool) (ps : List Pr) (ks : List ByteArray) (kids : List Int) (key : ByteArray) (hl : ps.length ≤ BIG) {k : Nat} (hk : ps.length + 1 ≤ k) : node_Find.f k a ps ks kids key = some (foundAt ps key (cntP key ps)) := by
  have := find_go a ps ks kids key hl ps.length 0 (k - ps.length - 1) 0 (by omega) (by omega)
  rw [show k - ps.length - 1 + ps.length + 1 = k by omega, List.drop_zero, Nat.zero_add] at this
  exact this
theorem child_go (ks : List ByteArray) (key : ByteArray) (hl : ks.length ≤ BIG) : ∀ m i k c : Nat, i + m = ks.length → c ≤ i → node_Child.l0 (k + m + 1) key (c : Int) ks (ks.length : Int) (i : Int) = some ((c + cntK key (ks.drop i) : Nat) : Int) := by
  unfold BIG at hl
  intro m
  induction m with
  | zero =>
    intro i k c hi hc
    simp only [node_Child.l0]
    rw [if_neg (by omega), List.drop_eq_nil_of_le (by omega)]; rfl
  | succ m ih =>
    intro i k c hi hc
    have hlt : i < ks.length := by omega
    rw [List.drop_eq_getElem_cons hlt]
    rw [show k + (m + 1) + 1 = (k + m + 1) + 1 by omega]
    generalize hK : k + m + 1 = K
    simp only [node_Child.l0]
    subst hK
    rw [if_pos (by omega), if_pos (by omega), if_pos (by omega), rds ks i hlt, nexti i (by omega), nexti c (by omega)]
    show _ = some ((c + ((if Op.bytesLess key.toList ks[i].toList = true then 0 else 1) + cntK key (ks.drop (i + 1))) : Nat) : Int)
    by_cases h : Op.bytesLess key.toList ks[i].toList = true
    · rw [if_pos h, if_pos h, ih (i + 1) k c (by omega) (by omega), Nat.zero_add]
    · rw [if_neg h, if_neg h, ih (i + 1) k (c + 1) (by omega) (by omega), Nat.add_assoc]
theorem p_child (a : Bool) (ps : List Pr) (ks : List ByteArray) (kids : List Int) (key : ByteArray) (hl : ks.length ≤ BIG) {k : Nat} (hk : ks.length + 1 ≤ k) : node_Child.f k a ps ks kids key = some ((cntK key ks : Nat) : Int) := by
  have := child_go ks key hl ks.length 0 (k - ks.length - 1) 0 (by omega) (by omega)
  rw [show k - ks.length - 1 + ks.length + 1 = k by omega, List.drop_zero, Nat.zero_add] at this
  exact this
theorem rfind_go (a : Bool) (ps : List Pr) (ks : List ByteArray) (kids : List Int) (key : ByteArray) (hl : ps.length ≤ BIG) (F : Nat) (hF : ∀ p ∈ ps, 2 * p.f0.size + 2 < F) (hB : ∀ p ∈ ps, p.f0.size ≤ BIG) : ∀ m i k c : Nat, i + m = ps.length → c ≤ i → F ≤ k → factotumref09_Find.l0 (k + m + 1) key (c : Int) (i : Int) a ps ks kids = some (foundAt ps key (c + cntP key (ps.drop i))) := by
  unfold BIG at hl hB
  intro m
  induction m with
  | zero =>
    intro i k c hi hc _
    simp only [factotumref09_Find.l0]
    rw [if_neg (by omega), List.drop_eq_nil_of_le (by omega), found_end]; rfl
  | succ m ih =>
    intro i k c hi hc hk
    have hlt : i < ps.length := by omega
    have hm := hF _ (List.getElem_mem hlt)
    have hb := hB _ (List.getElem_mem hlt)
    rw [List.drop_eq_getElem_cons hlt]
    rw [show k + (m + 1) + 1 = (k + m + 1) + 1 by omega]
    generalize hK : k + m + 1 = K
    simp only [factotumref09_Find.l0]
    rw [if_pos (by omega), if_pos (by omega), rdp ps i hlt, nexti i (by omega), nexti c (by omega), ahead _ _ (by omega) (by omega), Option.bind_some]
    subst hK
    show _ = some (foundAt ps key (c + ((if Op.bytesLess ps[i].f0.toList key.toList = true then 1 else 0) + cntP key (ps.drop (i + 1)))))
    by_cases h : Op.bytesLess ps[i].f0.toList key.toList = true
    · rw [if_pos h, if_pos h, ih (i + 1) k (c + 1) (by omega) (by omega) hk, Nat.add_assoc]
    · rw [if_neg h, if_neg h, ih (i + 1) k c (by omega) (by omega) hk, Nat.zero_add]
theorem rchild_go (a : Bool) (ps : List Pr) (ks : List ByteArray) (kids : List Int) (key : ByteArray) (hl : ks.length ≤ BIG) (F : Nat) (hF : 2 * key.size + 2 < F) (hB : key.size ≤ BIG) : ∀ m i k c : Nat, i + m = ks.length → c ≤ i → F ≤ k → factotumref09_Child.l0 (k + m + 1) key (c : Int) (i : Int) a ps ks kids = some ((c + cntK key (ks.drop i) : Nat) : Int) := by
  unfold BIG at hl hB
  intro m
  induction m with
  | zero =>
    intro i k c hi hc _
    simp only [factotumref09_Child.l0]
    rw [if_neg (by omega), List.drop_eq_nil_of_le (by omega)]; rfl
  | succ m ih =>
    intro i k c hi hc hk
    have hlt : i < ks.length := by omega
    rw [List.drop_eq_getElem_cons hlt]
    rw [show k + (m + 1) + 1 = (k + m + 1) + 1 by omega]
    generalize hK : k + m + 1 = K
    simp only [factotumref09_Child.l0]
    rw [if_pos (by omega), if_pos (by omega), rds ks i hlt, nexti i (by omega), nexti c (by omega), ahead _ _ (by omega) (by omega), Option.bind_some]
    subst hK
    show _ = some ((c + ((if Op.bytesLess key.toList ks[i].toList = true then 0 else 1) + cntK key (ks.drop (i + 1))) : Nat) : Int)
    by_cases h : Op.bytesLess key.toList ks[i].toList = true
    · rw [if_pos h, if_pos h, ih (i + 1) k c (by omega) (by omega) hk, Nat.zero_add]
    · rw [if_neg h, if_neg h, ih (i + 1) k (c + 1) (by omega) (by omega) hk, Nat.add_assoc]
end Go.Proofs.Ytokjbncjapndgaa.XN
namespace Go.Proofs.Ytokjbncjapndgaa.Pure
open Go.RowKit Go.Proofs.Ytokjbncjapndgaa.PAll Go.Proofs.Ytokjbncjapndgaa.XP Go.Proofs.Ytokjbncjapndgaa.XN
theorem NodeFinds (n : XA.S26) (key : ByteArray) (_ : XA.in26 n) (hb : XA.wt26 n + (key.size + 1) ≤ 1048576) :
    ∃ k, factotumlaw09_NodeFinds.f k n.f0 n.f1 n.f2 n.f3 key = some true := by
  have h := bd_of n (by omega)
  have lp := len_sumP n.f1
  have lk := len_sumK n.f2
  have mp := mem_sumP n.f1
  obtain ⟨h1, h2, h3⟩ := h
  refine ⟨FUEL, ?_⟩
  generalize hK : FUEL = K
  have hF : FUEL ≤ K := by omega
  have hF' : 100000000 ≤ K := by unfold FUEL at hF; exact hF
  unfold factotumlaw09_NodeFinds.f
  have r1 := rfind_go n.f0 n.f1 n.f2 n.f3 key (by unfold BIG; omega) 30000000 (fun p hp => by have := mp p hp; unfold wp at this; omega) (fun p hp => by have := mp p hp; unfold wp at this; unfold BIG; omega) n.f1.length 0 (K - n.f1.length - 1) 0 (by omega) (by omega) (by omega)
  rw [show K - n.f1.length - 1 + n.f1.length + 1 = K by omega, List.drop_zero, Nat.zero_add] at r1
  have r2 := rchild_go n.f0 n.f1 n.f2 n.f3 key (by unfold BIG; omega) 30000000 (by omega) (by unfold BIG; omega) n.f2.length 0 (K - n.f2.length - 1) 0 (by omega) (by omega) (by omega)
  rw [show K - n.f2.length - 1 + n.f2.length + 1 = K by omega, List.drop_zero, Nat.zero_add] at r2
  have e1 : factotumref09_Find.f K n.f0 n.f1 n.f2 n.f3 key = some (foundAt n.f1 key (cntP key n.f1)) := r1
  have e2 : factotumref09_Child.f K n.f0 n.f1 n.f2 n.f3 key = some ((cntK key n.f2 : Nat) : Int) := r2
  rw [lives09 (by omega), Option.bind_some, if_pos rfl, p_find _ _ _ _ _ (by unfold BIG; omega) (by omega), Option.bind_some, e1, Option.bind_some, if_pos rfl, if_pos (by simp), p_child _ _ _ _ _ (by unfold BIG; omega) (by omega), Option.bind_some, e2, Option.bind_some]
  simp
end Go.Proofs.Ytokjbncjapndgaa.Pure
