/- The plain law of NodeBack. Condition: the bulk's bound. -/
import Derived.Test.YtokjbncjapndgaaDoorXNodeT
namespace Go.Proofs.YtokjbncjapndgaaDoor.Pure
open Go.RowKit Go.Proofs.YtokjbncjapndgaaDoor.PAll Go.Proofs.YtokjbncjapndgaaDoor.XP Go.Proofs.YtokjbncjapndgaaDoor.XN
theorem back_j0 (s : ByteArray) (hs : s.size ≤ 1048576) {K : Nat} (hF : FUEL + 1000 ≤ K) : factotumlaw09_NodeBack.j0 (K + 1) s false = some true := by
  have hF' : 100000000 + 1000 ≤ K := by unfold FUEL at hF; exact hF
  simp only [factotumlaw09_NodeBack.j0]
  rw [if_neg (by decide), p_read s (by omega) (by omega), Option.bind_some, p_write _ _ _ _ (read_bd s) (Nat.le_trans (Nat.le_add_right _ _) hF), Option.bind_some]
  by_cases hr : (readP s).2.2.2.2 = 0
  · have hw := p_sound s hr
    rw [if_pos hr, hw, if_pos rfl]; simp
  · rw [if_neg hr]
theorem write_size (leaf : Bool) (ps : List XN.Pr) (ks : List ByteArray) (kids : List Int) : (writeN leaf ps ks kids).1.size ≤ 1000 := by
  unfold writeN
  split
  · rename_i hr
    split
    · exact Nat.zero_le _
    · rename_i hs
      show (B _).size ≤ 1000
      rw [B_size]
      unfold pageN
      split
      · unfold pad; rw [List.length_append, List.length_replicate]
        rename_i hl; subst hl
        unfold sizeN at hs
        rw [if_pos rfl] at hs
        have := leafL_len ps
        rw [List.length_append]; simp only [List.length_cons, List.length_nil]; omega
      · unfold pad; rw [List.length_append, List.length_replicate]
        rename_i hl
        unfold sizeN at hs
        rw [if_neg hl] at hs
        have h1 := innL_len ks (kids.drop 1)
        have h2 := beN_len 2 (IntKind.u64.wrap (kids.headD 0))
        rw [List.length_append, List.length_append, h2]; simp only [List.length_cons, List.length_nil]; omega
  · exact Nat.zero_le _
theorem NodeBack (n : XA.S27) (s : ByteArray) (_ : XA.in27 n) (hb : XA.wt27 n + s.size ≤ 1048576) :
    ∃ k, factotumlaw09_NodeBack.f k n.f0 n.f1 n.f2 n.f3 s = some true := by
  have h := bd_of n (by omega)
  refine ⟨FUEL + 1001, ?_⟩
  generalize hK : FUEL + 1000 = K
  have hF : FUEL + 1000 ≤ K := Nat.le_of_eq hK
  have hF' : 100000000 + 1000 ≤ K := by unfold FUEL at hF; exact hF
  rw [show FUEL + 1001 = K + 1 from congrArg (· + 1) hK]
  have hz := write_size n.f0 n.f1 n.f2 n.f3
  have hj := back_j0 s (by omega) hF
  unfold factotumlaw09_NodeBack.f
  rw [lives09 (by omega), Option.bind_some, if_pos rfl, p_write _ _ _ _ h (Nat.le_trans (Nat.le_add_right _ _) (Nat.le_succ_of_le hF)), Option.bind_some, p_read _ (by omega) (by omega), Option.bind_some]
  by_cases hw : (writeN n.f0 n.f1 n.f2 n.f3).2 = 0
  · have e : writeN n.f0 n.f1 n.f2 n.f3 = ((writeN n.f0 n.f1 n.f2 n.f3).1, 0) := by rw [← hw]
    obtain ⟨q1, q2, q3⟩ := writeN_ok e
    have hp := p_complete _ _ _ _ q1 q2
    rw [← q3] at hp
    rw [if_pos hw, hp, if_pos rfl, same_ _ _ _ _ h (Nat.le_trans (Nat.le_add_right _ _) (Nat.le_succ_of_le hF)), Option.bind_some]
    exact hj
  · rw [if_neg hw]; exact hj
end Go.Proofs.YtokjbncjapndgaaDoor.Pure
