/- The plain law of NodeSplits. Condition: the bulk's bound. -/
import Derived.Test.YtokjbncjapndgaaXNodeJ
namespace Go.Proofs.Ytokjbncjapndgaa.Pure
open Go.RowKit Go.Proofs.Ytokjbncjapndgaa.PAll Go.Proofs.Ytokjbncjapndgaa.XP Go.Proofs.Ytokjbncjapndgaa.XN
theorem NodeSplits (n m : XA.S26) (key : ByteArray) (_ : XA.in26 n) (_ : XA.in26 m) (hb : XA.wt26 n + XA.wt26 m + (key.size + 1) ≤ 1048576) :
    ∃ k, factotumlaw09_NodeSplits.f k n.f0 n.f1 n.f2 n.f3 m.f0 m.f1 m.f2 m.f3 key = some true := by
  have h := bd_of n (by omega)
  have h' := bd_of m (by omega)
  have lens : ∀ {ps : List XN.Pr} {ks : List ByteArray} {kids : List Int}, Bd ps ks kids → ps.length ≤ 10000000 ∧ ks.length ≤ 10000000 ∧ kids.length ≤ 10000000 := by
    intro ps ks kids h
    have a := len_sumP ps
    have b := len_sumK ks
    obtain ⟨h1, h2, h3⟩ := h
    exact ⟨by omega, by omega, by omega⟩
  refine ⟨FUEL, ?_⟩
  generalize hK : FUEL = K
  have hF : FUEL ≤ K := by omega
  have hF' : 100000000 ≤ K := by unfold FUEL at hF; exact hF
  obtain ⟨s1, s2⟩ := bd_split (leaf := n.f0) h
  have sm : ∀ (a : Bool) {ps : List XN.Pr} {ks : List ByteArray} {kids : List Int}, ps.length ≤ 20000010 → ks.length ≤ 20000010 → kids.length ≤ 20000010 → factotumref09_Same.f K a ps ks kids a ps ks kids = some true := by
    intro a ps ks kids h1 h2 h3
    exact same a ps ks kids (by unfold BIG; omega) (by unfold BIG; omega) (by unfold BIG; omega) (by omega)
  have l1 := lens s1
  have l2 := lens s2
  have n1 := lens h
  have n2 := lens h'
  unfold factotumlaw09_NodeSplits.f
  rw [lives09 (by omega), Option.bind_some, if_pos rfl, p_split _ _ _ _ h hF, Option.bind_some, r_split _ _ _ _ h hF, Option.bind_some, sm _ (by omega) (by omega) (by omega), Option.bind_some, if_pos rfl, sm _ (by omega) (by omega) (by omega), Option.bind_some, if_pos rfl, if_pos rfl, p_join _ _ _ _ _ _ _ _ _ h h', Option.bind_some, r_join _ _ _ _ _ _ _ _ _ h h', Option.bind_some]
  have j : ∃ a ps ks kids, joinN n.f0 n.f1 n.f2 n.f3 m.f1 m.f2 m.f3 key = (a, ps, ks, kids) ∧ ps.length ≤ 20000010 ∧ ks.length ≤ 20000010 ∧ kids.length ≤ 20000010 := by
    unfold joinN
    split
    · exact ⟨_, _, _, _, rfl, by rw [List.length_append]; omega, by simp, by simp⟩
    · exact ⟨_, _, _, _, rfl, by simp, by rw [List.length_append, List.length_append, List.length_singleton]; omega, by rw [List.length_append]; omega⟩
  obtain ⟨a, ps, ks, kids, e, b1, b2, b3⟩ := j
  rw [e, sm _ b1 b2 b3, Option.bind_some]
end Go.Proofs.Ytokjbncjapndgaa.Pure
