/- Programs that may be run: what the program and the document's answer compute. Plain laws over the printed functions. No conditions. -/
import Derived.Test.YtbdmfpgiolaooaaDoorXInst
namespace Go.Proofs.YtbdmfpgiolaooaaDoor.XI
open Go.RowKit Go.Proofs.YtbdmfpgiolaooaaDoor.XW Go.Proofs.YtbdmfpgiolaooaaDoor.XLib Go.Proofs.YtbdmfpgiolaooaaDoor.PAll Go.Proofs.YtbdmfpgiolaooaaDoorW.PrintWords Go.Proofs.YtbdmfpgiolaooaaDoorW.PrintLast Go.Proofs.YtbdmfpgiolaooaaDoor.XP Go.Proofs.YtbdmfpgiolaooaaDoor.XV
theorem rdi (l : List In) (i : Nat) (h : i < l.length) : rd_T32 l (i : Int) = l[i] := by
  unfold rd_T32; rw [Int.toNat_natCast, List.getD_eq_getElem?_getD, List.getElem?_eq_getElem h]; rfl
theorem rdn (l : List Int) (i : Nat) (h : i < l.length) : rd l (i : Int) = l[i] := by
  unfold rd; rw [Int.toNat_natCast, List.getD_eq_getElem?_getD, List.getElem?_eq_getElem h]; rfl
def aim (x : In) : Bool := decide (x.f0 = 9 ∨ x.f0 = 10 ∨ x.f0 = 16)
def regs (x : In) : List Int := ([x.f1, x.f2, x.f3].take (opN x.f0).toNat).drop (if x.f0 = 9 ∨ x.f0 = 10 ∨ x.f0 = 16 then 1 else 0)
def goes (x : In) : Prop := x.f0 = 9 ∨ x.f0 = 10
instance (x : In) : Decidable (goes x) := inferInstanceAs (Decidable (_ ∨ _))
def stops (x : In) : Bool := decide (x.f0 = 9 ∨ x.f0 = 18 ∨ x.f0 = 19)
def badR (x : In) : Bool := (regs x).any fun r => decide (r ≥ 6)
def badT (n : Int) (x : In) : Bool := decide (goes x ∧ x.f1 ≥ n)
theorem regs_len (x : In) : (regs x).length ≤ 3 := by
  unfold regs; rw [List.length_drop, List.length_take]; have : ([x.f1, x.f2, x.f3] : List Int).length = 3 := rfl; omega
theorem p_regs (x : In) : check_Registers.f x.f0 x.f1 x.f2 x.f3 x.f4.f0 x.f4.f1 x.f4.f2 = some (regs x) := by
  unfold check_Registers.f; rw [p_ops]; rfl
theorem p_target (x : In) : check_Target.f x.f0 x.f1 x.f2 x.f3 x.f4.f0 x.f4.f1 x.f4.f2 = some (if goes x then (x.f1, true) else (0, false)) := by
  unfold check_Target.f check_aims.f
  by_cases h9 : x.f0 = 9
  · rw [if_pos h9, Option.bind_some, if_pos rfl, if_pos (show goes x from Or.inl h9)]
  · rw [if_neg h9, Option.bind_some]
    by_cases h10 : x.f0 = 10
    · rw [if_pos (by simpa using h10), if_pos (show goes x from Or.inr h10)]
    · rw [if_neg (by simpa using h10), if_neg (show ¬ goes x from fun z => by rcases z with z | z; exact h9 z; exact h10 z)]
theorem p_ends (x : In) : check_ends.f x.f0 x.f1 x.f2 x.f3 x.f4.f0 x.f4.f1 x.f4.f2 = some (stops x) := by
  unfold check_ends.f stops
  by_cases h9 : x.f0 = 9
  · rw [if_pos h9, decide_eq_true (Or.inl h9)]
  · rw [if_neg h9]
    by_cases h18 : x.f0 = 18
    · rw [if_pos h18, decide_eq_true (Or.inr (Or.inl h18))]
    · rw [if_neg h18]
      by_cases h19 : x.f0 = 19
      · rw [if_pos h19, decide_eq_true (Or.inr (Or.inr h19))]
      · rw [if_neg h19, decide_eq_false (by omega)]
theorem idx_r (l : List Int) (hl : l.length ≤ 3) : ∀ m i k : Nat, i + m = l.length → ∃ r, slices_IndexFunc_at_check_oddRegister_1.l0 (k + m + 1) l (l.length : Int) (i : Int) = some r ∧ decide (r ≥ 0) = (l.drop i).any fun r => decide (r ≥ 6) := by
  intro m
  induction m with
  | zero =>
    intro i k hi
    refine ⟨-1, ?_, ?_⟩
    · simp only [slices_IndexFunc_at_check_oddRegister_1.l0]; rw [if_neg (by omega)]
    · rw [List.drop_eq_nil_of_le (by omega)]; rfl
  | succ m ih =>
    intro i k hi
    have hlt : i < l.length := by omega
    rw [show k + (m + 1) + 1 = (k + m + 1) + 1 by omega]
    generalize hK : k + m + 1 = K
    simp only [slices_IndexFunc_at_check_oddRegister_1.l0]
    unfold check_oddRegister_1.f
    subst hK
    rw [if_pos (by omega), if_pos (by omega), if_pos (by omega), Option.bind_some, rdn l i hlt, List.drop_eq_getElem_cons hlt, List.any_cons]
    by_cases h6 : l[i] ≥ 6
    · rw [decide_eq_true h6]
      exact ⟨(i : Int), if_pos rfl, by simp⟩
    · rw [decide_eq_false h6, if_neg (by decide), nexti i (by omega)]
      obtain ⟨r, h1, h2⟩ := ih (i + 1) k (by omega)
      exact ⟨r, h1, by rw [h2]; simp⟩
theorem p_oddR (x : In) (n : Int) {k : Nat} (hk : 4 ≤ k) : check_oddRegister.f k x.f0 x.f1 x.f2 x.f3 x.f4.f0 x.f4.f1 x.f4.f2 n = some (badR x) := by
  unfold check_oddRegister.f slices_ContainsFunc_at_check_oddRegister_1.f slices_IndexFunc_at_check_oddRegister_1.f badR
  have hl := regs_len x
  obtain ⟨r, h1, h2⟩ := idx_r (regs x) hl (regs x).length 0 (k - (regs x).length - 1) (by omega)
  rw [show k - (regs x).length - 1 + (regs x).length + 1 = k by omega] at h1
  rw [p_regs, Option.bind_some, show (0 : Int) = ((0 : Nat) : Int) from rfl, h1, Option.bind_some, Option.bind_some]
  exact congrArg some h2
theorem p_oddT (x : In) (n : Int) : check_oddTarget.f x.f0 x.f1 x.f2 x.f3 x.f4.f0 x.f4.f1 x.f4.f2 n = some (badT n x) := by
  unfold check_oddTarget.f badT
  rw [p_target, Option.bind_some]
  by_cases h : goes x
  · rw [if_pos h, if_pos rfl]; congr 1; simp [h]
  · rw [if_neg h, if_neg (by decide), decide_eq_false (fun z => h z.1)]
theorem p_oddC (x : In) (n : Int) (hx : Fit x) {k : Nat} (hk : 15 ≤ k) : check_oddCode.f k x.f0 x.f1 x.f2 x.f3 x.f4.f0 x.f4.f1 x.f4.f2 n = some (!instOK x) := by
  obtain ⟨j, rfl⟩ : ∃ j, k = j + 13 + 1 + 1 := ⟨k - 15, by omega⟩
  unfold check_oddCode.f
  rw [show (⟨x.f0, x.f1, x.f2, x.f3, (⟨x.f4.f0, x.f4.f1, x.f4.f2⟩ : Vl)⟩ : In) = x from rfl]
  have h : code_Write.f (j + 13 + 1 + 1) [x] = some (if instOK x = true then (B (encI x), 0) else (⟨#[]⟩, 4)) := by
    unfold code_Write.f
    rw [if_neg (show ¬ ((([x] : List In).length : Int) > 64) by show ¬ ((1 : Int) > 64); decide)]
    show code_Write.l0 (j + 13 + 1 + 1) [] [x] 1 0 = _
    generalize hJ : j + 13 = J
    simp only [code_Write.l0]
    subst hJ
    rw [if_pos (by decide), if_pos (by decide), if_pos (show (0 : Int) < (([x] : List In).length : Int) by show (0 : Int) < 1; decide), show rd_T32 [x] 0 = x from rfl, p_right x hx (by omega), Option.bind_some]
    cases hi : instOK x with
    | false => rfl
    | true =>
      rw [if_pos rfl, show ([] : List Int) = bi [] from rfl, show j + 13 + 1 = (j + 1) + 13 by omega, p_put x (j + 1) [] (by simp), Option.bind_some, List.nil_append, show (wrap64 (0 + 1)) = 1 by unfold wrap64; omega, if_neg (by decide), strB]; rfl
  rw [h, Option.bind_some]
  cases instOK x <;> rfl
/-! ## the first fault -/
def fi (p : In → Bool) : List In → Int → Int
  | [], _ => -1
  | x :: l, i => if p x = true then i else fi p l (i + 1)
theorem ix_fi (g : In → Option Bool) (p : In → Bool) : ∀ (l : List In) (i : Int), (∀ x ∈ l, g x = some (p x)) → check_Check.ix g l i = some (fi p l i) := by
  intro l
  induction l with
  | nil => intro i _; rfl
  | cons x l ih =>
    intro i h
    simp only [check_Check.ix, fi]
    rw [h x (by simp), Option.bind_some]
    cases p x with
    | true => rfl
    | false => exact ih (i + 1) (fun y hy => h y (by simp [hy]))
theorem fi_any (p : In → Bool) : ∀ (l : List In) (i : Int), 0 ≤ i → (0 ≤ fi p l i ↔ l.any p = true) := by
  intro l
  induction l with
  | nil => intro i _; simp [fi]
  | cons x l ih =>
    intro i hi
    simp only [fi, List.any_cons]
    cases p x with
    | true => simp [hi]
    | false => simpa using ih (i + 1) (by omega)
def lastE (l : List In) : Int × Int := if stops (rd_T32 l ((l.length : Int) - 1)) = true then (0, 0) else (13, (l.length : Int) - 1)
def tgtE (l : List In) (i : Int) : Int × Int := if 0 ≤ i then (7, i) else lastE l
def regE (l : List In) (i : Int) : Int × Int := if 0 ≤ i then (6, i) else tgtE l (fi (badT (l.length : Int)) l 0)
def codE (l : List In) (i : Int) : Int × Int := if 0 ≤ i then (4, i) else regE l (fi badR l 0)
/-- why a program may not be run -/
def chkE (l : List In) : Int × Int := if l.length = 0 then (1, 0) else if 64 < l.length then (3, 64) else codE l (fi (fun x => !instOK x) l 0)
theorem p_check (l : List In) (hl : ∀ x ∈ l, Fit x) {k : Nat} (hk : 15 ≤ k) : check_Check.f k l = some (chkE l) := by
  unfold check_Check.f chkE
  by_cases h0 : l.length = 0
  · rw [if_pos h0, if_pos h0]
  · rw [if_neg h0, if_neg h0]
    by_cases h64 : 64 < l.length
    · rw [if_pos h64, if_pos h64]
    · rw [if_neg h64, if_neg h64]
      have e3 : ∀ x ∈ l, check_Check.odd k (l.length : Int) 3 x = some (!instOK x) := fun x hx => by
        unfold check_Check.odd; rw [if_pos rfl]; exact p_oddC x _ (hl x hx) hk
      have e2 : ∀ x ∈ l, check_Check.odd k (l.length : Int) 2 x = some (badR x) := fun x _ => by
        unfold check_Check.odd; rw [if_neg (by decide), if_pos rfl]; exact p_oddR x _ (by omega)
      have e1 : ∀ x ∈ l, check_Check.odd k (l.length : Int) 1 x = some (badT (l.length : Int) x) := fun x _ => by
        unfold check_Check.odd; rw [if_neg (by decide), if_neg (by decide)]; exact p_oddT x _
      show check_Check.T k l (2 + 1) = _
      unfold codE regE tgtE lastE
      simp only [check_Check.T]
      rw [ix_fi _ _ l 0 e3, Option.bind_some, ix_fi _ _ l 0 e2, ix_fi _ _ l 0 e1]
      unfold check_Check.last
      rw [p_ends]
      by_cases c3 : 0 ≤ fi (fun x => !instOK x) l 0
      · rw [if_pos c3, if_pos c3]; rfl
      · rw [if_neg c3, if_neg c3, Option.bind_some]
        by_cases c2 : 0 ≤ fi badR l 0
        · rw [if_pos c2, if_pos c2]; rfl
        · rw [if_neg c2, if_neg c2, Option.bind_some]
          by_cases c1 : 0 ≤ fi (badT (l.length : Int)) l 0
          · rw [if_pos c1, if_pos c1]; rfl
          · rw [if_neg c1, if_neg c1, Option.bind_some]
section
variable (l : List In) (hn : 0 < l.length) (h64 : l.length ≤ 64)
include hn h64
end
end Go.Proofs.YtbdmfpgiolaooaaDoor.XI
