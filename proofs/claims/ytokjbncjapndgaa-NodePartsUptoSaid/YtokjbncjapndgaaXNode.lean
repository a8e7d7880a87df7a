/- Nodes: what they are as pages, how great they are, where a key is: what the program and the document's answer compute. Plain laws over the printed functions. No conditions. -/
import Derived.Test.YtokjbncjapndgaaXPack
import Derived.Lib.Repeat
namespace Go.Proofs.Ytokjbncjapndgaa.XN
open Go.RowKit Go.Proofs.Ytokjbncjapndgaa.XW Go.Proofs.Ytokjbncjapndgaa.XLib Go.Proofs.Ytokjbncjapndgaa.PAll Go.Proofs.YtokjbncjapndgaaW.PrintWords Go.Proofs.YtokjbncjapndgaaW.PrintLast Go.Proofs.Ytokjbncjapndgaa.XP
abbrev Pr := S43
theorem rdn (l : List Int) (i : Nat) (h : i < l.length) : rd l (i : Int) = l[i] := by
  unfold rd; rw [Int.toNat_natCast, List.getD_eq_getElem?_getD, List.getElem?_eq_getElem h]; rfl
theorem rds (l : List ByteArray) (i : Nat) (h : i < l.length) : rdOf ByteArray.empty l (i : Int) = l[i] := by
  unfold rdOf; rw [Int.toNat_natCast, List.getD_eq_getElem?_getD, List.getElem?_eq_getElem h]; rfl
theorem rdp (l : List Pr) (i : Nat) (h : i < l.length) : rd_T43 l (i : Int) = l[i] := by
  unfold rd_T43; rw [Int.toNat_natCast, List.getD_eq_getElem?_getD, List.getElem?_eq_getElem h]; rfl
theorem getD_at (l : List ByteArray) (i : Nat) (h : i < l.length) : l.getD i ByteArray.empty = l[i] := by
  rw [List.getD_eq_getElem?_getD, List.getElem?_eq_getElem h]; rfl
theorem nexti (i : Nat) (h : i < 140737488355328) : wrap64 ((i : Int) + 1) = ((i + 1 : Nat) : Int) := (IntWalk.wrap64_in _ ⟨by omega, by omega⟩).trans (by omega)
theorem previ (i : Nat) (h0 : 0 < i) (h : i < 140737488355328) : wrap64 ((i : Int) - 1) = ((i - 1 : Nat) : Int) := (IntWalk.wrap64_in _ ⟨by omega, by omega⟩).trans (by omega)
theorem toList_size (s : ByteArray) : s.toList.length = s.size := by rw [Lib.toList_data, Lib.size_eq]
theorem empty_iff (s : ByteArray) : s.toList = [] ↔ s.size = 0 := by rw [← toList_size]; exact List.length_eq_zero_iff.symm
theorem bta (s : ByteArray) (i : Nat) (c : UInt8) (r : List UInt8) (h : s.data.toList.drop i = c :: r) : i < s.size ∧ bt s (i : Int) = (c.toNat : Int) ∧ s.data.toList.drop (i + 1) = r := by
  have hi : i < s.size := by
    rw [Lib.size_eq]
    rcases Nat.lt_or_ge i s.data.toList.length with h2 | h2
    · exact h2
    · rw [List.drop_eq_nil_of_le h2] at h; cases h
  have hi' : i < s.data.toList.length := by rw [← Lib.size_eq]; exact hi
  rw [List.drop_eq_getElem_cons hi'] at h
  injection h with h1 h2
  refine ⟨hi, ?_, h2⟩
  unfold bt
  rw [dif_pos (by rw [Int.toNat_natCast]; exact hi)]
  simp only [Int.toNat_natCast]
  rw [← h1]; rfl
theorem bl_cons (c d : UInt8) (x y : List UInt8) : Op.bytesLess (c :: x) (d :: y) = (decide (c < d) || (c == d && Op.bytesLess x y)) := rfl
theorem ahead_go (a b : ByteArray) (ha : a.size ≤ 140737488355327) : ∀ (m i k : Nat), i + m = a.size → i ≤ b.size → 2 * m + 2 < k →
    factotumref02_Ahead.l0 k a b (i : Int) = some (Op.bytesLess (a.data.toList.drop i) (b.data.toList.drop i)) := by
  intro m
  induction m with
  | zero =>
    intro i k hi hb hk
    obtain ⟨k, rfl⟩ : ∃ j, k = j + 2 := ⟨k - 2, by omega⟩
    simp only [factotumref02_Ahead.l0]
    rw [if_neg (by omega)]
    simp only [factotumref02_Ahead.j1]
    rw [if_neg (by decide), List.drop_eq_nil_of_le (show a.data.toList.length ≤ i by rw [← Lib.size_eq]; omega)]
    by_cases h : i < b.size
    · rw [List.drop_eq_getElem_cons (show i < b.data.toList.length by rw [← Lib.size_eq]; exact h), decide_eq_true (show (a.size : Int) < (b.size : Int) by omega)]; rfl
    · rw [List.drop_eq_nil_of_le (show b.data.toList.length ≤ i by rw [← Lib.size_eq]; omega), decide_eq_false (show ¬ (a.size : Int) < (b.size : Int) by omega)]; rfl
  | succ m ih =>
    intro i k hi hb hk
    obtain ⟨k, rfl⟩ : ∃ j, k = j + 2 := ⟨k - 2, by omega⟩
    have h1 : i < a.data.toList.length := by rw [← Lib.size_eq]; omega
    simp only [factotumref02_Ahead.l0]
    rw [if_pos (by omega)]
    simp only [factotumref02_Ahead.j1]
    have da := List.drop_eq_getElem_cons h1
    obtain ⟨q1, q2, _⟩ := bta a i _ _ da
    by_cases h2 : i < b.size
    · have h2' : i < b.data.toList.length := by rw [← Lib.size_eq]; exact h2
      have db := List.drop_eq_getElem_cons h2'
      obtain ⟨_, q3, _⟩ := bta b i _ _ db
      rw [if_pos (by rw [decide_eq_true_eq]; omega), if_pos (by omega), if_pos (by omega), if_pos (by omega), q2, q3, da, db, bl_cons]
      by_cases he : (a.data.toList[i].toNat : Int) = b.data.toList[i].toNat
      · have e : a.data.toList[i] = b.data.toList[i] := UInt8.toNat_inj.1 (by omega)
        rw [if_pos he, nexti i (by omega), ih (i + 1) k (by omega) (by omega) (by omega), e]
        simp
      · have e : (a.data.toList[i] == b.data.toList[i]) = false := by rw [beq_eq_false_iff_ne]; intro h; exact he (by rw [h])
        rw [if_neg he, e, Bool.false_and, Bool.or_false]
        congr 1
        by_cases hl : a.data.toList[i].toNat < b.data.toList[i].toNat
        · rw [decide_eq_true (show (a.data.toList[i].toNat : Int) < (b.data.toList[i].toNat : Int) by omega), decide_eq_true (show a.data.toList[i] < b.data.toList[i] from hl)]
        · rw [decide_eq_false (show ¬ (a.data.toList[i].toNat : Int) < (b.data.toList[i].toNat : Int) by omega), decide_eq_false (show ¬ a.data.toList[i] < b.data.toList[i] from hl)]
    · rw [if_neg (by rw [decide_eq_true_eq]; omega), da, List.drop_eq_nil_of_le (show b.data.toList.length ≤ i by rw [← Lib.size_eq]; omega), decide_eq_false (show ¬ (a.size : Int) < (b.size : Int) by omega)]; rfl
theorem ahead (a b : ByteArray) (ha : a.size ≤ 140737488355327) {k : Nat} (hk : 2 * a.size + 2 < k) : factotumref02_Ahead.f k a b = some (Op.bytesLess a.toList b.toList) := by
  unfold factotumref02_Ahead.f
  rw [show (0 : Int) = ((0 : Nat) : Int) from rfl, ahead_go a b ha a.size 0 k (by omega) (Nat.zero_le _) hk, List.drop_zero, List.drop_zero, Lib.toList_data, Lib.toList_data]
/-! ## how great -/
def wp (p : Pr) : Nat := 2 + p.f0.size + p.f1.size
def wk (s : ByteArray) : Nat := 3 + s.size
def sumP (l : List Pr) : Nat := (l.map wp).sum
def sumK (l : List ByteArray) : Nat := (l.map wk).sum
def sizeN (leaf : Bool) (ps : List Pr) (ks : List ByteArray) : Nat := if leaf = true then 2 + sumP ps else 4 + sumK ks
theorem sumP_cons (p : Pr) (l : List Pr) : sumP (p :: l) = wp p + sumP l := rfl
theorem sumK_cons (p : ByteArray) (l : List ByteArray) : sumK (p :: l) = wk p + sumK l := rfl
def BIG : Nat := 1000000000
theorem weigh (p : Pr) (h : wp p ≤ BIG) : node_weigh.f p.f0 p.f1 = some ((wp p : Nat) : Int) := by
  unfold wp BIG at h
  unfold node_weigh.f wp
  rw [IntWalk.wrap64_in (2 + (p.f0.size : Int)) ⟨by omega, by omega⟩, IntWalk.wrap64_in _ ⟨by omega, by omega⟩]
  congr 1
theorem size_p (ps : List Pr) (hl : ps.length ≤ BIG) : ∀ m i k acc : Nat, i + m = ps.length → acc + sumP (ps.drop i) ≤ BIG → node_Size.l0 (k + m + 1) (acc : Int) ps (ps.length : Int) (i : Int) = some ((acc + sumP (ps.drop i) : Nat) : Int) := by
  unfold BIG at *
  intro m
  induction m with
  | zero =>
    intro i k acc hi _
    simp only [node_Size.l0]
    rw [if_neg (by omega), List.drop_eq_nil_of_le (by omega)]; rfl
  | succ m ih =>
    intro i k acc hi hb
    have hlt : i < ps.length := by omega
    rw [List.drop_eq_getElem_cons hlt, sumP_cons] at hb ⊢
    rw [show k + (m + 1) + 1 = (k + m + 1) + 1 by omega]
    generalize hK : k + m + 1 = K
    simp only [node_Size.l0]
    subst hK
    rw [if_pos (by omega), if_pos (by omega), if_pos (by omega), rdp ps i hlt, weigh _ (by unfold BIG; omega), Option.bind_some, nexti i (by omega), IntWalk.wrap64_in ((acc : Int) + _) ⟨by omega, by omega⟩]
    rw [show (acc : Int) + ((wp ps[i] : Nat) : Int) = ((acc + wp ps[i] : Nat) : Int) from rfl, ih (i + 1) k _ (by omega) (by omega), Nat.add_assoc]
theorem size_k (ps : List ByteArray) (hl : ps.length ≤ BIG) : ∀ m i k acc : Nat, i + m = ps.length → acc + sumK (ps.drop i) ≤ BIG → node_Size.l1 (k + m + 1) (acc : Int) ps (ps.length : Int) (i : Int) = some ((acc + sumK (ps.drop i) : Nat) : Int) := by
  unfold BIG at *
  intro m
  induction m with
  | zero =>
    intro i k acc hi _
    simp only [node_Size.l1]
    rw [if_neg (by omega), List.drop_eq_nil_of_le (by omega)]; rfl
  | succ m ih =>
    intro i k acc hi hb
    have hlt : i < ps.length := by omega
    rw [List.drop_eq_getElem_cons hlt, sumK_cons] at hb ⊢
    rw [show k + (m + 1) + 1 = (k + m + 1) + 1 by omega]
    generalize hK : k + m + 1 = K
    simp only [node_Size.l1]
    subst hK
    have hw : wk ps[i] = 3 + ps[i].size := rfl
    rw [if_pos (by omega), if_pos (by omega), if_pos (by omega), rds ps i hlt, nexti i (by omega), IntWalk.wrap64_in (3 + (ps[i].size : Int)) ⟨by omega, by omega⟩, IntWalk.wrap64_in ((acc : Int) + _) ⟨by omega, by omega⟩]
    rw [show (acc : Int) + (3 + (ps[i].size : Int)) = ((acc + wk ps[i] : Nat) : Int) by omega, ih (i + 1) k _ (by omega) (by omega), Nat.add_assoc]
theorem p_size (leaf : Bool) (ps : List Pr) (ks : List ByteArray) (kids : List Int) {k : Nat} (hk : ps.length + ks.length + 1 ≤ k) (h1 : 2 + sumP ps ≤ BIG) (h2 : 4 + sumK ks ≤ BIG) (l1 : ps.length ≤ BIG) (l2 : ks.length ≤ BIG) :
    node_Size.f k leaf ps ks kids = some ((sizeN leaf ps ks : Nat) : Int) := by
  unfold node_Size.f sizeN
  cases leaf with
  | true =>
    rw [if_pos rfl, if_pos rfl]
    have := size_p ps l1 ps.length 0 (k - ps.length - 1) 2 (by omega) (by rw [List.drop_zero]; exact h1)
    rw [show k - ps.length - 1 + ps.length + 1 = k by omega, List.drop_zero] at this
    exact this
  | false =>
    rw [if_neg (show ¬ (false = true) by decide), if_neg (show ¬ (false = true) by decide)]
    have := size_k ks l2 ks.length 0 (k - ks.length - 1) 4 (by omega) (by rw [List.drop_zero]; exact h2)
    rw [show k - ks.length - 1 + ks.length + 1 = k by omega, List.drop_zero] at this
    exact this
/-! ## which may be -/
def okAt (l : List ByteArray) (i : Nat) : Bool := decide (1 ≤ (l.getD i ByteArray.empty).size ∧ (l.getD i ByteArray.empty).size ≤ 32) && (decide (i = 0) || Op.bytesLess (l.getD (i - 1) ByteArray.empty).toList (l.getD i ByteArray.empty).toList)
def risF (l : List ByteArray) : Nat → Nat → Bool
  | 0, _ => true
  | m + 1, i => okAt l i && risF l m (i + 1)
def ris (l : List ByteArray) : Bool := risF l l.length 0
theorem rising_go (l : List ByteArray) (hl : l.length ≤ BIG) : ∀ m i k : Nat, i + m = l.length → node_rising.l0 (k + m + 1) l l (l.length : Int) (i : Int) = some (risF l m i) := by
  unfold BIG at *
  intro m
  induction m with
  | zero =>
    intro i k hi
    simp only [node_rising.l0]
    rw [if_neg (by omega)]; rfl
  | succ m ih =>
    intro i k hi
    have hlt : i < l.length := by omega
    rw [show k + (m + 1) + 1 = (k + m + 1) + 1 by omega]
    generalize hK : k + m + 1 = K
    simp only [node_rising.l0]
    subst hK
    rw [if_pos (by omega), if_pos (by omega), if_pos (by omega), rds l i hlt, nexti i (by omega)]
    show _ = some (okAt l i && risF l m (i + 1))
    unfold okAt
    rw [getD_at l i hlt]
    by_cases h1 : l[i].toList = []
    · rw [if_pos h1, decide_eq_false (by have := (empty_iff _).1 h1; omega)]; rfl
    · have h1' : l[i].size ≠ 0 := fun h => h1 ((empty_iff _).2 h)
      rw [if_neg h1]
      by_cases h2 : (l[i].size : Int) > 32
      · rw [if_pos h2, decide_eq_false (by omega)]; rfl
      · rw [if_neg h2, decide_eq_true (by omega), Bool.true_and]
        by_cases h0 : i = 0
        · subst h0
          rw [if_neg (by omega), ih 1 k (by omega)]; simp
        · have hp : i - 1 < l.length := by omega
          rw [if_pos (by omega), previ i (by omega) (by omega), if_pos (by omega), if_pos (by omega), rds l (i - 1) hp, getD_at l (i - 1) hp, ih (i + 1) k (by omega), decide_eq_false h0, Bool.false_or]
          cases Op.bytesLess l[i - 1].toList l[i].toList <;> rfl
theorem rising (l : List ByteArray) (hl : l.length ≤ BIG) {k : Nat} (hk : l.length + 1 ≤ k) : node_rising.f k l = some (ris l) := by
  have := rising_go l hl l.length 0 (k - l.length - 1) (by omega)
  rw [show k - l.length - 1 + l.length + 1 = k by omega] at this
  exact this
def longP (p : Pr) : Bool := decide (p.f1.size > 40)
def oddK (c : Int) : Bool := decide (c < 1) || decide (c > 65535)
theorem index_1 (l : List Pr) (hl : l.length ≤ BIG) : ∀ m i k : Nat, i + m = l.length → ∃ r, slices_IndexFunc_at_node_right_1.l0 (k + m + 1) l (l.length : Int) (i : Int) = some r ∧ decide (r ≥ 0) = (l.drop i).any longP := by
  unfold BIG at *
  intro m
  induction m with
  | zero =>
    intro i k hi
    refine ⟨-1, ?_, ?_⟩
    · simp only [slices_IndexFunc_at_node_right_1.l0]; rw [if_neg (by omega)]
    · rw [List.drop_eq_nil_of_le (by omega)]; rfl
  | succ m ih =>
    intro i k hi
    have hlt : i < l.length := by omega
    rw [show k + (m + 1) + 1 = (k + m + 1) + 1 by omega]
    generalize hK : k + m + 1 = K
    simp only [slices_IndexFunc_at_node_right_1.l0]
    subst hK
    have ho : node_right_1.f l[i].f0 l[i].f1 = some (longP l[i]) := by
      unfold node_right_1.f longP; congr 1; exact decide_eq_decide.2 (by omega)
    rw [if_pos (by omega), if_pos (by omega), if_pos (by omega), rdp l i hlt, ho, Option.bind_some, List.drop_eq_getElem_cons hlt, List.any_cons]
    cases longP l[i] with
    | true => exact ⟨(i : Int), if_pos rfl, by simp⟩
    | false =>
      rw [if_neg (by decide), nexti i (by omega)]
      obtain ⟨r, h1, h2⟩ := ih (i + 1) k (by omega)
      exact ⟨r, h1, by rw [h2]; simp⟩
theorem contains_1 (l : List Pr) (hl : l.length ≤ BIG) {k : Nat} (hk : l.length + 1 ≤ k) : slices_ContainsFunc_at_node_right_1.f k l = some (l.any longP) := by
  obtain ⟨r, h1, h2⟩ := index_1 l hl l.length 0 (k - l.length - 1) (by omega)
  rw [show k - l.length - 1 + l.length + 1 = k by omega] at h1
  unfold slices_ContainsFunc_at_node_right_1.f slices_IndexFunc_at_node_right_1.f
  rw [show (0 : Int) = ((0 : Nat) : Int) from rfl, h1, Option.bind_some]
  exact congrArg some h2
theorem index_2 (l : List Int) (hl : l.length ≤ BIG) : ∀ m i k : Nat, i + m = l.length → ∃ r, slices_IndexFunc_at_node_right_2.l0 (k + m + 1) l (l.length : Int) (i : Int) = some r ∧ decide (r ≥ 0) = (l.drop i).any oddK := by
  unfold BIG at *
  intro m
  induction m with
  | zero =>
    intro i k hi
    refine ⟨-1, ?_, ?_⟩
    · simp only [slices_IndexFunc_at_node_right_2.l0]; rw [if_neg (by omega)]
    · rw [List.drop_eq_nil_of_le (by omega)]; rfl
  | succ m ih =>
    intro i k hi
    have hlt : i < l.length := by omega
    rw [show k + (m + 1) + 1 = (k + m + 1) + 1 by omega]
    generalize hK : k + m + 1 = K
    simp only [slices_IndexFunc_at_node_right_2.l0]
    subst hK
    have ho : node_right_2.f l[i] = some (oddK l[i]) := by
      unfold node_right_2.f oddK
      by_cases h : l[i] < 1
      · rw [if_pos h, decide_eq_true h]; rfl
      · rw [if_neg h, decide_eq_false h]; rfl
    rw [if_pos (by omega), if_pos (by omega), if_pos (by omega), rdn l i hlt, ho, Option.bind_some, List.drop_eq_getElem_cons hlt, List.any_cons]
    cases oddK l[i] with
    | true => exact ⟨(i : Int), if_pos rfl, by simp⟩
    | false =>
      rw [if_neg (by decide), nexti i (by omega)]
      obtain ⟨r, h1, h2⟩ := ih (i + 1) k (by omega)
      exact ⟨r, h1, by rw [h2]; simp⟩
theorem contains_2 (l : List Int) (hl : l.length ≤ BIG) {k : Nat} (hk : l.length + 1 ≤ k) : slices_ContainsFunc_at_node_right_2.f k l = some (l.any oddK) := by
  obtain ⟨r, h1, h2⟩ := index_2 l hl l.length 0 (k - l.length - 1) (by omega)
  rw [show k - l.length - 1 + l.length + 1 = k by omega] at h1
  unfold slices_ContainsFunc_at_node_right_2.f slices_IndexFunc_at_node_right_2.f
  rw [show (0 : Int) = ((0 : Nat) : Int) from rfl, h1, Option.bind_some]
  exact congrArg some h2
theorem keys_go (ps : List Pr) (hl : ps.length ≤ BIG) : ∀ (m i k : Nat) (acc : List ByteArray), i + m = ps.length → acc.length + m ≤ BIG → node_keys.l0 (k + m + 1) acc ps (ps.length : Int) (i : Int) = some (acc ++ (ps.drop i).map (·.f0)) := by
  unfold BIG at *
  intro m
  induction m with
  | zero =>
    intro i k acc hi _
    simp only [node_keys.l0]
    rw [if_neg (by omega), List.drop_eq_nil_of_le (by omega)]; simp
  | succ m ih =>
    intro i k acc hi ha
    have hlt : i < ps.length := by omega
    rw [List.drop_eq_getElem_cons hlt]
    rw [show k + (m + 1) + 1 = (k + m + 1) + 1 by omega]
    generalize hK : k + m + 1 = K
    simp only [node_keys.l0]
    subst hK
    rw [if_pos (by omega), if_pos (by omega), if_pos (by omega), rdp ps i hlt, if_pos (by omega), nexti i (by omega), ih (i + 1) k _ (by omega) (by rw [List.length_append, List.length_singleton]; omega)]
    rw [List.map_cons, List.append_assoc]; rfl
theorem keys_ (a : Bool) (ps : List Pr) (ks : List ByteArray) (kids : List Int) (hl : ps.length ≤ BIG) {k : Nat} (hk : ps.length + 1 ≤ k) : node_keys.f k a ps ks kids = some (ps.map (·.f0)) := by
  have := keys_go ps hl ps.length 0 (k - ps.length - 1) [] (by omega) (by simp; exact hl)
  rw [show k - ps.length - 1 + ps.length + 1 = k by omega] at this
  exact this
def rightN (leaf : Bool) (ps : List Pr) (ks : List ByteArray) (kids : List Int) : Bool :=
  if leaf = true then decide (ks.length = 0) && (decide (kids.length = 0) && (ris (ps.map (·.f0)) && !ps.any longP))
  else decide (ps.length = 0) && (decide (kids.length = ks.length + 1) && (ris ks && !kids.any oddK))
theorem p_right (leaf : Bool) (ps : List Pr) (ks : List ByteArray) (kids : List Int) (l1 : ps.length ≤ BIG) (l2 : ks.length ≤ BIG) (l3 : kids.length ≤ BIG) {k : Nat} (hk : ps.length + ks.length + kids.length + 1 ≤ k) :
    node_right.f k leaf ps ks kids = some (rightN leaf ps ks kids) := by
  unfold node_right.f rightN
  cases leaf with
  | true =>
    rw [if_pos rfl, if_pos rfl, IntWalk.wrap64_in _ ⟨by omega, by unfold BIG at *; omega⟩]
    by_cases h : ks.length = 0 ∧ kids.length = 0
    · rw [if_pos (by omega), keys_ _ _ _ _ l1 (by omega), Option.bind_some, rising _ (by rw [List.length_map]; exact l1) (by rw [List.length_map]; omega), Option.bind_some, contains_1 ps l1 (by omega), decide_eq_true h.1, decide_eq_true h.2]
      cases ris (ps.map (·.f0)) <;> rfl
    · rw [if_neg (by omega)]
      by_cases h1 : ks.length = 0
      · rw [decide_eq_true h1, decide_eq_false (show ¬ kids.length = 0 from fun h2 => h ⟨h1, h2⟩)]; rfl
      · rw [decide_eq_false h1]; rfl
  | false =>
    rw [if_neg (show ¬ (false = true) by decide), if_neg (show ¬ (false = true) by decide)]
    by_cases h1 : ps.length = 0
    · rw [if_pos (by omega), decide_eq_true h1, IntWalk.wrap64_in _ ⟨by omega, by unfold BIG at *; omega⟩]
      by_cases h2 : kids.length = ks.length + 1
      · rw [if_pos (by omega), decide_eq_true h2, rising _ l2 (by omega), Option.bind_some, contains_2 kids l3 (by omega)]
        cases ris ks <;> rfl
      · rw [if_neg (by omega), decide_eq_false h2]; rfl
    · rw [if_neg (by omega), decide_eq_false h1]; rfl
theorem ordered_go (l : List ByteArray) (hl : l.length ≤ BIG) (F : Nat) (hF : ∀ s ∈ l, 2 * s.size + 2 < F) (hB : ∀ s ∈ l, s.size ≤ BIG) : ∀ m i k : Nat, i + m = l.length → F ≤ k → factotumref09_ordered.l0 (k + m + 1) l (i : Int) = some (risF l m i) := by
  unfold BIG at *
  intro m
  induction m with
  | zero =>
    intro i k hi _
    simp only [factotumref09_ordered.l0]
    rw [if_neg (by omega)]; rfl
  | succ m ih =>
    intro i k hi hk
    have hlt : i < l.length := by omega
    rw [show k + (m + 1) + 1 = (k + m + 1) + 1 by omega]
    generalize hK : k + m + 1 = K
    simp only [factotumref09_ordered.l0]
    rw [if_pos (by omega), if_pos (by omega), rds l i hlt, nexti i (by omega)]
    show _ = some (okAt l i && risF l m (i + 1))
    unfold okAt
    rw [getD_at l i hlt]
    by_cases h1 : (l[i].size : Int) < 1
    · rw [if_pos h1, decide_eq_false (by omega)]; rfl
    · rw [if_neg h1]
      by_cases h2 : (l[i].size : Int) > 32
      · rw [if_pos h2, decide_eq_false (by omega)]; rfl
      · rw [if_neg h2, decide_eq_true (by omega), Bool.true_and]
        by_cases h0 : i = 0
        · subst h0 hK
          rw [if_neg (by omega), ih 1 k (by omega) hk]; simp
        · have hp : i - 1 < l.length := by omega
          have hm := hF _ (List.getElem_mem hp)
          have hb := hB _ (List.getElem_mem hp)
          rw [if_pos (by omega), previ i (by omega) (by omega), if_pos (by omega), if_pos (by omega), rds l (i - 1) hp, ahead _ _ (by omega) (by omega), Option.bind_some, getD_at l (i - 1) hp, decide_eq_false h0, Bool.false_or]
          subst hK
          rw [ih (i + 1) k (by omega) hk]
          cases Op.bytesLess l[i - 1].toList l[i].toList <;> rfl
theorem ordered (l : List ByteArray) (hl : l.length ≤ BIG) (F : Nat) (hF : ∀ s ∈ l, 2 * s.size + 2 < F) (hB : ∀ s ∈ l, s.size ≤ BIG) {k : Nat} (hk : F + 2 * l.length + 3 ≤ k) : factotumref09_ordered.f k l = some (ris l) := by
  have := ordered_go l hl F hF hB l.length 0 (k - l.length - 1) (by omega) (by omega)
  rw [show k - l.length - 1 + l.length + 1 = k by omega] at this
  exact this
theorem right_leaf (ps : List Pr) (ks : List ByteArray) (kids : List Int) (l1 : ps.length ≤ BIG) (F : Nat) (hF : ∀ s ∈ ps.map (·.f0), 2 * s.size + 2 < F) (hB : ∀ s ∈ ps.map (·.f0), s.size ≤ BIG) : ∀ m i k : Nat, i + m = ps.length → F + 2 * ps.length + 3 ≤ k →
    factotumref09_Right.l1 (k + m + 1) ((ps.take i).map (·.f0)) (i : Int) true ps ks kids = some ((!(ps.drop i).any longP) && (decide (ks.length = 0) && (decide (kids.length = 0) && ris (ps.map (·.f0))))) := by
  have l1' := l1
  unfold BIG at l1'
  intro m
  induction m with
  | zero =>
    intro i k hi hk
    simp only [factotumref09_Right.l1]
    rw [if_neg (by omega), List.drop_eq_nil_of_le (by omega), List.take_of_length_le (by omega), ordered _ (by rw [List.length_map]; exact l1) F hF hB (by rw [List.length_map]; omega), Option.bind_some]
    by_cases h1 : ks.length = 0
    · rw [if_pos (by omega), decide_eq_true h1]
      by_cases h2 : kids.length = 0
      · rw [if_pos (by omega), decide_eq_true h2]; rfl
      · rw [if_neg (by omega), decide_eq_false h2]; rfl
    · rw [if_neg (by omega), decide_eq_false h1]; rfl
  | succ m ih =>
    intro i k hi hk
    have hlt : i < ps.length := by omega
    rw [show k + (m + 1) + 1 = (k + m + 1) + 1 by omega]
    generalize hK : k + m + 1 = K
    simp only [factotumref09_Right.l1]
    subst hK
    rw [if_pos (by omega), if_pos (by omega), rdp ps i hlt, nexti i (by omega), List.drop_eq_getElem_cons hlt, List.any_cons]
    by_cases h : (ps[i].f1.size : Int) > 40
    · rw [if_pos h, show longP ps[i] = true from decide_eq_true (by omega)]; rfl
    · rw [if_neg h, show longP ps[i] = false from decide_eq_false (by omega), if_pos (by rw [List.length_map, List.length_take]; omega)]
      have e : (ps.take i).map (·.f0) ++ [ps[i].f0] = (ps.take (i + 1)).map (·.f0) := by rw [List.take_succ_eq_append_getElem hlt, List.map_append]; rfl
      rw [e, ih (i + 1) k (by omega) hk, Bool.false_or]
theorem right_inner (ps : List Pr) (ks : List ByteArray) (kids : List Int) (l2 : ks.length ≤ BIG) (l3 : kids.length ≤ BIG) (F : Nat) (hF : ∀ s ∈ ks, 2 * s.size + 2 < F) (hB : ∀ s ∈ ks, s.size ≤ BIG) : ∀ m i k : Nat, i + m = kids.length → F + 2 * ks.length + 3 ≤ k →
    factotumref09_Right.l0 (k + m + 1) (i : Int) false ps ks kids = some ((!(kids.drop i).any oddK) && (decide (ps.length = 0) && (decide (kids.length = ks.length + 1) && ris ks))) := by
  have l2' := l2
  have l3' := l3
  unfold BIG at l2' l3'
  intro m
  induction m with
  | zero =>
    intro i k hi hk
    simp only [factotumref09_Right.l0]
    rw [if_neg (by omega), List.drop_eq_nil_of_le (by omega), IntWalk.wrap64_in _ ⟨by omega, by omega⟩, ordered _ l2 F hF hB hk, Option.bind_some]
    by_cases h1 : ps.length = 0
    · rw [if_pos (by omega), decide_eq_true h1]
      by_cases h2 : kids.length = ks.length + 1
      · rw [if_pos (by omega), decide_eq_true h2]; rfl
      · rw [if_neg (by omega), decide_eq_false h2]; rfl
    · rw [if_neg (by omega), decide_eq_false h1]; rfl
  | succ m ih =>
    intro i k hi hk
    have hlt : i < kids.length := by omega
    rw [show k + (m + 1) + 1 = (k + m + 1) + 1 by omega]
    generalize hK : k + m + 1 = K
    simp only [factotumref09_Right.l0]
    subst hK
    rw [if_pos (by omega), if_pos (by omega), rdn kids i hlt, nexti i (by omega), List.drop_eq_getElem_cons hlt, List.any_cons]
    by_cases h : kids[i] < 1
    · rw [if_pos h, show oddK kids[i] = true by unfold oddK; rw [decide_eq_true h]; rfl]; rfl
    · rw [if_neg h]
      by_cases h2 : kids[i] > 65535
      · rw [if_pos h2, show oddK kids[i] = true by unfold oddK; rw [decide_eq_true h2, Bool.or_true]]; rfl
      · rw [if_neg h2, show oddK kids[i] = false by unfold oddK; rw [decide_eq_false h, decide_eq_false h2]; rfl, ih (i + 1) k (by omega) hk, Bool.false_or]
theorem r_right (leaf : Bool) (ps : List Pr) (ks : List ByteArray) (kids : List Int) (l1 : ps.length ≤ BIG) (l2 : ks.length ≤ BIG) (l3 : kids.length ≤ BIG) (F : Nat) (hF : ∀ p ∈ ps, 2 * p.f0.size + 2 < F) (hF2 : ∀ s ∈ ks, 2 * s.size + 2 < F) (hFB : F ≤ BIG) {k : Nat} (hk : F + 2 * ps.length + 2 * ks.length + (ps.length + kids.length) + 4 ≤ k) :
    factotumref09_Right.f k leaf ps ks kids = some (rightN leaf ps ks kids) := by
  have hF' : ∀ s ∈ ps.map (·.f0), 2 * s.size + 2 < F := by
    intro s hs
    obtain ⟨p, hp, rfl⟩ := List.mem_map.1 hs
    exact hF p hp
  unfold factotumref09_Right.f rightN
  cases leaf with
  | true =>
    rw [if_pos rfl, if_pos rfl]
    have := right_leaf ps ks kids l1 F hF' (fun s hs => by have := hF' s hs; omega) ps.length 0 (k - ps.length - 1) (by omega) (by omega)
    rw [show k - ps.length - 1 + ps.length + 1 = k by omega, List.take_zero, List.drop_zero] at this
    refine this.trans ?_
    cases ps.any longP <;> cases ris (ps.map (·.f0)) <;> simp
  | false =>
    rw [if_neg (show ¬ (false = true) by decide), if_neg (show ¬ (false = true) by decide)]
    have := right_inner ps ks kids l2 l3 F hF2 (fun s hs => by have := hF2 s hs; omega) kids.length 0 (k - kids.length - 1) (by omega) (by omega)
    rw [show k - kids.length - 1 + kids.length + 1 = k by omega, List.drop_zero] at this
    refine this.trans ?_
    cases kids.any oddK <;> cases ris ks <;> simp
end Go.Proofs.Ytokjbncjapndgaa.XN
