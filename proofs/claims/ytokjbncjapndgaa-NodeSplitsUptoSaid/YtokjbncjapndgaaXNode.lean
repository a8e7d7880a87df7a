/- Nodes: what they are as pages, how great they are, where a key is: what the program and the document's answer compute. Plain laws over the printed functions. No conditions. -/
import Derived.Test.YtokjbncjapndgaaXPack
import Derived.Lib.Repeat
namespace Go.Proofs.Ytokjbncjapndgaa.XN
open Go.RowKit Go.Proofs.Ytokjbncjapndgaa.XW Go.Proofs.Ytokjbncjapndgaa.XLib Go.Proofs.Ytokjbncjapndgaa.PAll Go.Proofs.YtokjbncjapndgaaW.PrintWords Go.Proofs.YtokjbncjapndgaaW.PrintLast Go.Proofs.Ytokjbncjapndgaa.XP
abbrev Pr := S43
theorem rds (l : List ByteArray) (i : Nat) (h : i < l.length) : rdOf ByteArray.empty l (i : Int) = l[i] := by
  unfold rdOf; rw [Int.toNat_natCast, List.getD_eq_getElem?_getD, List.getElem?_eq_getElem h]; rfl
theorem rdp (l : List Pr) (i : Nat) (h : i < l.length) : rd_T43 l (i : Int) = l[i] := by
  unfold rd_T43; rw [Int.toNat_natCast, List.getD_eq_getElem?_getD, List.getElem?_eq_getElem h]; rfl
theorem nexti (i : Nat) (h : i < 140737488355328) : wrap64 ((i : Int) + 1) = ((i + 1 : Nat) : Int) := (IntWalk.wrap64_in _ ⟨by omega, by omega⟩).trans (by omega)
/-! ## how great -/
def wp (p : Pr) : Nat := 2 + p.f0.size + p.f1.size
def wk (s : ByteArray) : Nat := 3 + s.size
def sumP (l : List Pr) : Nat := (l.map wp).sum
def sumK (l : List ByteArray) : Nat := (l.map wk).sum
def sizeN (leaf : Bool) (ps : List Pr) (ks : List ByteArray) : Nat := if leaf = true then 2 + sumP ps else 4 + sumK ks
theorem sumP_cons (p : Pr) (l : List Pr) : sumP (p :: l) = wp p + sumP l := rfl
theorem sumK_cons (p : ByteArray) (l : List ByteArray) : sumK (p :: l) = wk p + sumK l := rfl
def BIG : Nat := 1000000000
theorem weigh (p : Pr) (h : wp p ≤ BIG) : node_weigh.f p.f0 p.f1 = some ((wp p : Nat) : Int) := by
  unfold wp BIG at h
  unfold node_weigh.f wp
  rw [IntWalk.wrap64_in (2 + (p.f0.size : Int)) ⟨by omega, by omega⟩, IntWalk.wrap64_in _ ⟨by omega, by omega⟩]
  congr 1
theorem rpair (p : Pr) (h : wp p ≤ BIG) : factotumref09_pair.f p.f0 p.f1 = some ((wp p : Nat) : Int) := weigh p h
theorem rsize_p (a : Bool) (ps : List Pr) (ks : List ByteArray) (kids : List Int) (hl : ps.length ≤ BIG) : ∀ m i k acc : Nat, i + m = ps.length → acc + sumP (ps.drop i) ≤ BIG → factotumref09_Size.l1 (k + m + 1) (acc : Int) (i : Int) a ps ks kids = some ((acc + sumP (ps.drop i) : Nat) : Int) := by
  unfold BIG at *
  intro m
  induction m with
  | zero =>
    intro i k acc hi _
    simp only [factotumref09_Size.l1]
    rw [if_neg (by omega), List.drop_eq_nil_of_le (by omega)]; rfl
  | succ m ih =>
    intro i k acc hi hb
    have hlt : i < ps.length := by omega
    rw [List.drop_eq_getElem_cons hlt, sumP_cons] at hb ⊢
    rw [show k + (m + 1) + 1 = (k + m + 1) + 1 by omega]
    generalize hK : k + m + 1 = K
    simp only [factotumref09_Size.l1]
    subst hK
    rw [if_pos (by omega), if_pos (by omega), rdp ps i hlt, rpair _ (by unfold BIG; omega), Option.bind_some, nexti i (by omega), IntWalk.wrap64_in ((acc : Int) + _) ⟨by omega, by omega⟩]
    rw [show (acc : Int) + ((wp ps[i] : Nat) : Int) = ((acc + wp ps[i] : Nat) : Int) from rfl, ih (i + 1) k _ (by omega) (by omega), Nat.add_assoc]
theorem rsize_k (a : Bool) (ps : List Pr) (ks : List ByteArray) (kids : List Int) (hl : ks.length ≤ BIG) : ∀ m i k acc : Nat, i + m = ks.length → acc + sumK (ks.drop i) ≤ BIG → factotumref09_Size.l0 (k + m + 1) (acc : Int) (i : Int) a ps ks kids = some ((acc + sumK (ks.drop i) : Nat) : Int) := by
  unfold BIG at *
  intro m
  induction m with
  | zero =>
    intro i k acc hi _
    simp only [factotumref09_Size.l0]
    rw [if_neg (by omega), List.drop_eq_nil_of_le (by omega)]; rfl
  | succ m ih =>
    intro i k acc hi hb
    have hlt : i < ks.length := by omega
    rw [List.drop_eq_getElem_cons hlt, sumK_cons] at hb ⊢
    rw [show k + (m + 1) + 1 = (k + m + 1) + 1 by omega]
    generalize hK : k + m + 1 = K
    simp only [factotumref09_Size.l0]
    subst hK
    have hw : wk ks[i] = 3 + ks[i].size := rfl
    rw [if_pos (by omega), if_pos (by omega), rds ks i hlt, nexti i (by omega), IntWalk.wrap64_in (3 + (ks[i].size : Int)) ⟨by omega, by omega⟩, IntWalk.wrap64_in ((acc : Int) + _) ⟨by omega, by omega⟩]
    rw [show (acc : Int) + (3 + (ks[i].size : Int)) = ((acc + wk ks[i] : Nat) : Int) by omega, ih (i + 1) k _ (by omega) (by omega), Nat.add_assoc]
theorem r_size (leaf : Bool) (ps : List Pr) (ks : List ByteArray) (kids : List Int) {k : Nat} (hk : ps.length + ks.length + 1 ≤ k) (h1 : 2 + sumP ps ≤ BIG) (h2 : 4 + sumK ks ≤ BIG) (l1 : ps.length ≤ BIG) (l2 : ks.length ≤ BIG) :
    factotumref09_Size.f k leaf ps ks kids = some ((sizeN leaf ps ks : Nat) : Int) := by
  unfold factotumref09_Size.f sizeN
  cases leaf with
  | true =>
    rw [if_pos rfl, if_pos rfl]
    have := rsize_p true ps ks kids l1 ps.length 0 (k - ps.length - 1) 2 (by omega) (by rw [List.drop_zero]; exact h1)
    rw [show k - ps.length - 1 + ps.length + 1 = k by omega, List.drop_zero] at this
    exact this
  | false =>
    rw [if_neg (show ¬ (false = true) by decide), if_neg (show ¬ (false = true) by decide)]
    have := rsize_k false ps ks kids l2 ks.length 0 (k - ks.length - 1) 4 (by omega) (by rw [List.drop_zero]; exact h2)
    rw [show k - ks.length - 1 + ks.length + 1 = k by omega, List.drop_zero] at this
    exact this
/-! ## which may be -/
end Go.Proofs.Ytokjbncjapndgaa.XN
