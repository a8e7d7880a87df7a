/- The plain law of CheckStays. Condition: the bulk's bound. -/
import Derived.Test.YtbdmfpgiolaooaaDoorXReachW
namespace Go.Proofs.YtbdmfpgiolaooaaDoor.Pure
open Go.RowKit Go.Proofs.YtbdmfpgiolaooaaDoor.PAll Go.Proofs.YtbdmfpgiolaooaaDoor.XI Go.Proofs.YtbdmfpgiolaooaaDoorW.PrintWords Go.Proofs.YtbdmfpgiolaooaaDoor.XG
theorem stays_go (l : List S32) (o : List Bool) (h : XI.Good l) (hI : Inv (eT l) (eN l) l.length o []) : ∀ (m i k : Nat), i + m = l.length → factotumlaw15_CheckStays.l0 (k + 2 * m + 1) l o (i : Int) = some true := by
  have h64 := h.most
  have ho := hI.len
  have hS := hI.shut
  intro m
  induction m with
  | zero =>
    intro i k hi
    simp only [factotumlaw15_CheckStays.l0]
    rw [if_neg (by omega)]
  | succ m ih =>
    intro i k hi
    have hlt : i < l.length := by omega
    have j2 : factotumlaw15_CheckStays.j2 (k + 2 * m + 1 + 1) l o (i : Int) false = some true := by
      have e := ih (i + 1) k (by omega)
      generalize hJ : k + 2 * m + 1 = J at e
      simp only [factotumlaw15_CheckStays.j2]
      rw [if_neg (by decide), if_pos (by omega), if_pos (by omega), rdi l i hlt, nexti i (by omega), rdo, rdo, e]
      have eNk : eN l i = !stops l[i] := by unfold eN; rw [dif_pos hlt]
      by_cases h9 : l[i].f0 = 9
      · rw [if_pos h9]
      · rw [if_neg h9]
        by_cases h18 : l[i].f0 = 18
        · rw [if_pos h18]
        · rw [if_neg h18]
          by_cases h19 : l[i].f0 = 19
          · rw [if_pos h19]
          · rw [if_neg h19]
            have hs : stops l[i] = false := by unfold stops; exact decide_eq_false (by omega)
            have hN : eN l i = true := by rw [eNk, hs]; rfl
            have hn := eN_lt l h i hlt hN
            rw [if_neg (by omega), if_pos (by omega)]
            cases ha : at_ o i with
            | false => rfl
            | true =>
              have e2 : at_ o (i + 1) = true := (hS i hlt ha).2 hN
              rw [if_pos rfl, if_pos (by omega), if_pos (by omega), e2, if_pos rfl]
    rw [show k + 2 * (m + 1) + 1 = (k + 2 * m + 1 + 1) + 1 by omega]
    generalize hJ : k + 2 * m + 1 + 1 = J at j2
    simp only [factotumlaw15_CheckStays.l0]
    rw [if_pos (by omega), if_pos (by omega), rdi l i hlt, p_target, Option.bind_some]
    by_cases hg : goes l[i]
    · have hin := goal_in (h.inst _ (List.getElem_mem hlt)) hg
      have eTk : eT l i = some l[i].f1.toNat := by unfold eT; rw [dif_pos hlt, if_pos hg]
      have ht := eT_lt l h i _ hlt eTk
      rw [if_pos hg]
      simp only [if_true]
      rw [if_neg (by omega), if_neg (by omega), if_pos (by omega), rdo]
      cases ha : at_ o i with
      | false => rw [if_neg (by decide), j2]
      | true =>
        have e1 : rdOf false o l[i].f1 = true := by
          have : at_ o l[i].f1.toNat = true := (hS i hlt ha).1 _ eTk
          rw [← rdo, show ((l[i].f1.toNat : Nat) : Int) = l[i].f1 by omega] at this
          exact this
        rw [if_pos rfl, if_pos hin.1, if_pos (by omega), e1]
        exact j2
    · rw [if_neg hg, if_neg (by decide), j2]
theorem CheckStays (l : List S32) (hi : ∀ x ∈ l, XA.in32 x) (hb : (l.map XA.wt32).sum + 1 ≤ 1048576) : ∃ k, factotumlaw15_CheckStays.f k l = some true := by
  refine ⟨5000, ?_⟩
  generalize hK : 5000 = K
  have hF : 5000 ≤ K := by omega
  unfold factotumlaw15_CheckStays.f
  rw [live15 (by omega), Option.bind_some, if_pos rfl, p_check l (fit_all l hi (by omega)) (by omega), p_reached l (fit_all l hi (by omega)) (by omega), Option.bind_some, Option.bind_some]
  by_cases h0 : (chkE l).1 = 0
  · have h := chk_ok h0
    have h64 := h.most
    have hp := h.pos
    have hI := (p_reach l h (Nat.le_refl _)).2
    have ho := hI.len
    rw [if_pos h0, if_pos h0, if_pos (by rw [ho]), if_pos (by omega)]
    obtain ⟨J, rfl⟩ : ∃ J, K = J + 1 := ⟨K - 1, by omega⟩
    simp only [factotumlaw15_CheckStays.j0]
    have hz : rdOf false (reachE l) 0 = true := by
      have := hI.zero
      rcases this with h1 | h1
      · rw [← rdo] at h1; exact h1
      · cases h1
    rw [hz, if_neg (by decide)]
    have := stays_go l (reachE l) h hI l.length 0 (J - 2 * l.length - 1) (by omega)
    rw [show J - 2 * l.length - 1 + 2 * l.length + 1 = J by omega] at this
    exact this
  · rw [if_neg h0, if_neg h0]; rfl
end Go.Proofs.YtbdmfpgiolaooaaDoor.Pure
