/- Workflows that wake and are cancelled; the same workflows; what ended stays. Plain laws over the printed functions. No conditions. -/
import Derived.Test.YtobjnhkjahhfnaaDoorXFlow
namespace Go.Proofs.YtobjnhkjahhfnaaDoor.XF
open Go.RowKit Go.Proofs.YtobjnhkjahhfnaaDoor.XW Go.Proofs.YtobjnhkjahhfnaaDoor.XLib Go.Proofs.YtobjnhkjahhfnaaDoor.PAll Go.Proofs.YtobjnhkjahhfnaaDoorW.PrintWords Go.Proofs.YtobjnhkjahhfnaaDoorW.PrintLast Go.Proofs.YtobjnhkjahhfnaaDoor.XP Go.Proofs.YtobjnhkjahhfnaaDoor.XV Go.Proofs.YtobjnhkjahhfnaaDoor.XE
theorem wake_some (id pr a0 a1 : Int) (a2 : ByteArray) (st sp ti v0 v1 : Int) (v2 : ByteArray) (pc : Int) (rg : List Vl) (ca : Bool) (now : Int) :
    ∃ t, flows_Wake.f id pr a0 a1 a2 st sp ti v0 v1 v2 pc rg ca now = some t ∧ t.2.2.2.2.2.2.2.2.2.2.2.2.1.length ≤ rg.length := by
  unfold flows_Wake.f
  split
  · split
    · exact ⟨_, rfl, Nat.le_refl _⟩
    · exact ⟨_, rfl, Nat.le_refl _⟩
  · exact ⟨_, rfl, Nat.le_refl _⟩
theorem cancel_eq (id pr a0 a1 : Int) (a2 : ByteArray) (st sp ti v0 v1 : Int) (v2 : ByteArray) (pc : Int) (rg : List Vl) (ca : Bool) :
    flows_Cancel.f id pr a0 a1 a2 st sp ti v0 v1 v2 pc rg ca = some (if st = 1 ∨ st = 2 then (id, pr, a0, a1, a2, 5, sp, 0, v0, v1, v2, 0, [], ca, true) else (id, pr, a0, a1, a2, st, sp, ti, v0, v1, v2, pc, rg, ca, false)) := by
  unfold flows_Cancel.f flows_live.f
  by_cases h1 : st = 1
  · rw [if_pos h1, Option.bind_some, if_pos rfl, if_pos (Or.inl h1)]
  · rw [if_neg h1, Option.bind_some]
    by_cases h2 : st = 2
    · rw [if_pos (by simpa using h2), if_pos (Or.inr h2)]
    · rw [if_neg (by simpa using h2), if_neg (by omega)]
theorem cancel_some (id pr a0 a1 : Int) (a2 : ByteArray) (st sp ti v0 v1 : Int) (v2 : ByteArray) (pc : Int) (rg : List Vl) (ca : Bool) :
    ∃ t, flows_Cancel.f id pr a0 a1 a2 st sp ti v0 v1 v2 pc rg ca = some t ∧ t.2.2.2.2.2.2.2.2.2.2.2.2.1.length ≤ rg.length := by
  rw [cancel_eq]
  refine ⟨_, rfl, ?_⟩
  split
  · exact Nat.zero_le _
  · exact Nat.le_refl _
theorem ended_eq (id pr a0 a1 : Int) (a2 : ByteArray) (st sp ti v0 v1 : Int) (v2 : ByteArray) (pc : Int) (rg : List Vl) (ca : Bool) :
    flows_Ended.f id pr a0 a1 a2 st sp ti v0 v1 v2 pc rg ca = some (decide (st = 3 ∨ st = 4 ∨ st = 5)) := by
  unfold flows_Ended.f
  by_cases h3 : st = 3
  · rw [if_pos h3, decide_eq_true (Or.inl h3)]
  · rw [if_neg h3]
    by_cases h4 : st = 4
    · rw [if_pos h4, decide_eq_true (Or.inr (Or.inl h4))]
    · rw [if_neg h4]
      by_cases h5 : st = 5
      · rw [decide_eq_true (Or.inr (Or.inr h5))]; simp [h5]
      · rw [decide_eq_false (by omega)]; simp [h5]
theorem p_same_go (a b : List Vl) (hl : a.length = b.length) (hb : a.length ≤ 1000000000) : ∀ m i k : Nat, i + m = a.length → api_Value_40.l0 (k + m + 1) a b (a.length : Int) (i : Int) = some (eqL (a.drop i) (b.drop i)) := by
  intro m
  induction m with
  | zero =>
    intro i k hi
    simp only [api_Value_40.l0]
    rw [if_neg (by omega), List.drop_eq_nil_of_le (by omega), List.drop_eq_nil_of_le (by omega)]; rfl
  | succ m ih =>
    intro i k hi
    have hlt : i < a.length := by omega
    have hlt2 : i < b.length := by omega
    rw [show k + (m + 1) + 1 = (k + m + 1) + 1 by omega]
    generalize hK : k + m + 1 = K
    simp only [api_Value_40.l0]
    subst hK
    rw [if_pos (by omega), if_pos (by omega), if_pos (by omega), if_pos (by omega), rdv a i hlt, rdv b i hlt2, nexti i (by omega), ih (i + 1) k (by omega), List.drop_eq_getElem_cons hlt, List.drop_eq_getElem_cons hlt2]
    show (if neV a[i] b[i] = true then some false else _) = some (eqV a[i] b[i] && eqL (a.drop (i + 1)) (b.drop (i + 1)))
    rw [neV_eq]
    cases eqV a[i] b[i] <;> rfl
theorem p_sameL (a b : List Vl) (hb : a.length ≤ 1000000000) {k : Nat} (hk : a.length + 1 ≤ k) : api_Value_40.f k a b = some (eqL a b) := by
  unfold api_Value_40.f
  by_cases h : a.length = b.length
  · rw [if_pos (by omega)]
    have := p_same_go a b h hb a.length 0 (k - a.length - 1) (by omega)
    rw [show k - a.length - 1 + a.length + 1 = k by omega] at this
    exact this
  · rw [if_neg (by omega), eqL_len a b h]
theorem ite_some (c : Prop) [Decidable c] (b : Bool) : (if c then some b else some false) = some (decide c && b) := by by_cases h : c <;> simp [h]
theorem same_eq (id pr a0 a1 : Int) (a2 : ByteArray) (st sp ti v0 v1 : Int) (v2 : ByteArray) (pc : Int) (rg : List Vl) (ca : Bool) (id' pr' a0' a1' : Int) (a2' : ByteArray) (st' sp' ti' v0' v1' : Int) (v2' : ByteArray) (pc' : Int) (rg' : List Vl) (ca' : Bool) (hb : rg.length ≤ 1000000000) {k : Nat} (hk : rg.length + 1 ≤ k) :
    ∃ b, flows_Same.f k id pr a0 a1 a2 st sp ti v0 v1 v2 pc rg ca id' pr' a0' a1' a2' st' sp' ti' v0' v1' v2' pc' rg' ca' = some b ∧ factotumref21_Same.f k id pr a0 a1 a2 st sp ti v0 v1 v2 pc rg ca id' pr' a0' a1' a2' st' sp' ti' v0' v1' v2' pc' rg' ca' = some b := by
  unfold flows_Same.f factotumref21_Same.f factotumref16_SameFrame.f
  rw [p_sameL rg rg' hb hk, r_sameL rg rg' hb hk]
  simp only [Option.bind_some, ite_some]
  refine ⟨_, rfl, ?_⟩
  congr 1
  generalize (a0 == a0' && (a1 == a1' && a2.toList == a2'.toList)) = p
  generalize (v0 == v0' && (v1 == v1' && v2.toList == v2'.toList)) = q
  generalize (ca == ca') = r
  generalize eqL rg rg' = s
  rw [Bool.eq_iff_iff]
  simp only [Bool.and_eq_true, decide_eq_true_eq]
  constructor <;> (rintro ⟨h1, h2, h3, h4, h5, h6, h7, h8, h9, h10⟩; simp_all)
end Go.Proofs.YtobjnhkjahhfnaaDoor.XF
