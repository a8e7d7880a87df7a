/- Nodes as pages: what the program and the document's answer write. Plain laws over the printed functions. No conditions. -/
import Derived.Test.YtokjbncjapndgaaXNode
import Derived.Test.YtokjbncjapndgaaXA
namespace Go.Proofs.Ytokjbncjapndgaa.XN
open Go.RowKit Go.Proofs.Ytokjbncjapndgaa.XW Go.Proofs.Ytokjbncjapndgaa.XLib Go.Proofs.Ytokjbncjapndgaa.PAll Go.Proofs.YtokjbncjapndgaaW.PrintWords Go.Proofs.YtokjbncjapndgaaW.PrintLast Go.Proofs.Ytokjbncjapndgaa.XP
structure Bd (ps : List Pr) (ks : List ByteArray) (kids : List Int) : Prop where
  p : sumP ps ≤ 10000000
  k : sumK ks ≤ 10000000
  c : kids.length ≤ 10000000
theorem len_sumP (ps : List Pr) : ps.length ≤ sumP ps := by
  induction ps with
  | nil => exact Nat.le_refl _
  | cons p ps ih => rw [sumP_cons, List.length_cons]; unfold wp; omega
theorem len_sumK (ps : List ByteArray) : ps.length ≤ sumK ps := by
  induction ps with
  | nil => exact Nat.le_refl _
  | cons p ps ih => rw [sumK_cons, List.length_cons]; unfold wk; omega
theorem mem_sumP (ps : List Pr) : ∀ p ∈ ps, wp p ≤ sumP ps := by
  induction ps with
  | nil => intro p hp; cases hp
  | cons q ps ih =>
    intro p hp
    rw [sumP_cons]
    rcases List.mem_cons.1 hp with rfl | h
    · omega
    · have := ih p h; omega
theorem mem_sumK (ps : List ByteArray) : ∀ p ∈ ps, wk p ≤ sumK ps := by
  induction ps with
  | nil => intro p hp; cases hp
  | cons q ps ih =>
    intro p hp
    rw [sumK_cons]
    rcases List.mem_cons.1 hp with rfl | h
    · omega
    · have := ih p h; omega
def FUEL : Nat := 100000000
theorem lives09 {k : Nat} (hk : 64 ≤ k) : factotumlaw09_lives.f k = some true := by
  have h : factotumlaw09_lives.f 64 = some true := by kernel_rfl
  obtain ⟨j, rfl⟩ : ∃ j, k = j + 64 := ⟨k - 64, by omega⟩
  induction j with
  | zero => exact h
  | succ j ih => rw [show j + 1 + 64 = (j + 64) + 1 by omega]; exact factotumlaw09_lives.mono _ _ (ih (by omega))
theorem sum_pairs (l : List Pr) : sumP l ≤ (l.map XA.wt43).sum := by
  induction l with
  | nil => exact Nat.le_refl _
  | cons p l ih =>
    have e : XA.wt43 p = (p.f0.size + 1) + (p.f1.size + 1) + 1 := rfl
    rw [sumP_cons, List.map_cons, List.sum_cons, e]; unfold wp; omega
theorem sum_keys (l : List ByteArray) : sumK l ≤ 3 * (l.map XA.wt9).sum := by
  induction l with
  | nil => exact Nat.zero_le _
  | cons p l ih =>
    have e : XA.wt9 p = p.size + 1 := rfl
    rw [sumK_cons, List.map_cons, List.sum_cons, e]; unfold wk; omega
theorem sum_kids (l : List Int) : l.length ≤ (l.map XA.wt3).sum := by
  induction l with
  | nil => exact Nat.zero_le _
  | cons p l ih =>
    have e : XA.wt3 p = 1 := rfl
    rw [List.length_cons, List.map_cons, List.sum_cons, e]; omega
theorem bd_of (n : XA.S26) (h : XA.wt26 n ≤ 1048576) : Bd n.f1 n.f2 n.f3 := by
  have h1 := sum_pairs n.f1
  have h2 := sum_keys n.f2
  have h3 := sum_kids n.f3
  unfold XA.wt26 at h
  exact ⟨by omega, by omega, by omega⟩
end Go.Proofs.Ytokjbncjapndgaa.XN
