/- The plain law of EffectsPieces: bytes in pieces, and put together. Condition: the bulk's bound. -/
import Derived.Test.YtjkjkebblkmpkaaDoorXPack
import Derived.Test.YtjkjkebblkmpkaaDoorXA
namespace Go.Proofs.YtjkjkebblkmpkaaDoor.XPc
open Go.RowKit Go.Proofs.YtjkjkebblkmpkaaDoor.XW Go.Proofs.YtjkjkebblkmpkaaDoor.PAll Go.Proofs.YtjkjkebblkmpkaaDoorW.PrintWords Go.Proofs.YtjkjkebblkmpkaaDoorW.PrintLast Go.Proofs.YtjkjkebblkmpkaaDoor.XP
/-- bytes in pieces of n -/
def cutS (n : Nat) : Nat → List UInt8 → List (List UInt8)
  | 0, _ => []
  | m + 1, l => if l = [] then [] else l.take n :: cutS n m (l.drop n)
theorem cutS_nil (n m : Nat) : cutS n m [] = [] := by cases m <;> simp [cutS]
theorem cutS_flat (n : Nat) (hn : 1 ≤ n) : ∀ (m : Nat) (l : List UInt8), l.length ≤ m → (cutS n m l).flatten = l := by
  intro m
  induction m with
  | zero => intro l h; obtain rfl := List.eq_nil_of_length_eq_zero (Nat.le_zero.1 h); rfl
  | succ m ih =>
    intro l h
    unfold cutS
    by_cases h0 : l = []
    · rw [if_pos h0, h0]; rfl
    · have : 0 < l.length := List.length_pos_iff.2 h0
      rw [if_neg h0, List.flatten_cons, ih _ (by rw [List.length_drop]; omega), List.take_append_drop]
theorem cutS_ne (n : Nat) (hn : 1 ≤ n) : ∀ (m : Nat) (l : List UInt8), ∀ x ∈ cutS n m l, x ≠ [] := by
  intro m
  induction m with
  | zero => intro l x hx; cases hx
  | succ m ih =>
    intro l x hx
    unfold cutS at hx
    by_cases h0 : l = []
    · rw [if_pos h0] at hx; cases hx
    · rw [if_neg h0] at hx
      rcases List.mem_cons.1 hx with rfl | hx
      · have : 0 < l.length := List.length_pos_iff.2 h0
        intro he
        have := congrArg List.length he
        rw [List.length_take, List.length_nil] at this; omega
      · exact ih _ x hx
theorem cutS_len (n : Nat) (hn : 1 ≤ n) : ∀ (m : Nat) (l : List UInt8), (cutS n m l).length ≤ l.length := by
  intro m
  induction m with
  | zero => intro l; exact Nat.zero_le _
  | succ m ih =>
    intro l
    unfold cutS
    by_cases h0 : l = []
    · rw [if_pos h0]; exact Nat.zero_le _
    · have : 0 < l.length := List.length_pos_iff.2 h0
      have h1 := ih (l.drop n)
      rw [List.length_drop] at h1
      rw [if_neg h0, List.length_cons]; omega
theorem cutS_whole (n : Nat) (l : List UInt8) (h0 : l ≠ []) (hn : l.length ≤ n) (m : Nat) (hm : l.length ≤ m) : cutS n m l = [l] := by
  have : 0 < l.length := List.length_pos_iff.2 h0
  obtain ⟨m, rfl⟩ : ∃ j, m = j + 1 := ⟨m - 1, by omega⟩
  unfold cutS
  rw [if_neg h0, List.take_of_length_le hn, List.drop_eq_nil_of_le hn, cutS_nil]
theorem p_go (n : Nat) (hn : 1 ≤ n) : ∀ (m k : Nat) (l : List UInt8) (acc : List ByteArray), l.length ≤ m → acc.length + l.length < 8796093022208 →
    effects_Pieces.l0 (k + m + 1) (B l) (n : Int) acc = some (acc ++ (cutS n m l).map B) := by
  intro m
  induction m with
  | zero =>
    intro k l acc h _
    obtain rfl := List.eq_nil_of_length_eq_zero (Nat.le_zero.1 h)
    generalize hQ : k + 0 = Q
    simp only [effects_Pieces.l0]
    rw [if_pos (B_list [])]; simp [cutS]
  | succ m ih =>
    intro k l acc h ha
    rw [show k + (m + 1) + 1 = (k + m + 1) + 1 by omega]
    generalize hQ : k + m + 1 = Q
    simp only [effects_Pieces.l0]
    subst hQ
    by_cases h0 : l = []
    · subst h0; rw [if_pos (B_list [])]; simp [cutS]
    · have hp : 0 < l.length := List.length_pos_iff.2 h0
      have hm : mn (n : Int) ((B l).size : Int) = ((min n l.length : Nat) : Int) := by rw [B_size]; unfold mn; split <;> omega
      have ht : l.take (min n l.length) = l.take n := by
        rcases Nat.le_total n l.length with h | h
        · rw [Nat.min_eq_left h]
        · rw [Nat.min_eq_right h, List.take_of_length_le (Nat.le_refl _), List.take_of_length_le h]
      have hd : l.drop (min n l.length) = l.drop n := by
        rcases Nat.le_total n l.length with h | h
        · rw [Nat.min_eq_left h]
        · rw [Nat.min_eq_right h, List.drop_eq_nil_of_le (Nat.le_refl _), List.drop_eq_nil_of_le h]
      rw [if_neg (by rw [B_list]; exact h0), hm, if_pos (by omega), if_pos (by rw [B_size]; omega), if_pos (by omega), Int.toNat_natCast, B_tail, B_head, ht, hd]
      rw [ih k _ _ (by rw [List.length_drop]; omega) (by rw [List.length_append, List.length_singleton, List.length_drop]; omega)]
      have hc : cutS n (m + 1) l = l.take n :: cutS n m (l.drop n) := by
        conv => lhs; unfold cutS
        rw [if_neg h0]
      rw [hc]; simp
theorem r_go (S : ByteArray) (n : Nat) (hn : 1 ≤ n) (hS : S.size + n < 8796093022208) : ∀ (m k i : Nat) (acc : List ByteArray), S.size ≤ i + m → i ≤ S.size + n → acc.length + (S.size - i) < 8796093022208 →
    factotumref17_Pieces.l0 (k + m + 1) S (n : Int) acc (i : Int) = some (acc ++ (cutS n m (S.data.toList.drop i)).map B) := by
  have hz : S.data.toList.length = S.size := (Lib.size_eq S).symm
  intro m
  induction m with
  | zero =>
    intro k i acc h _ _
    generalize hQ : k + 0 = Q
    simp only [factotumref17_Pieces.l0]
    rw [if_neg (by omega), List.drop_eq_nil_of_le (by omega), cutS_nil]; simp
  | succ m ih =>
    intro k i acc h hi ha
    rw [show k + (m + 1) + 1 = (k + m + 1) + 1 by omega]
    generalize hQ : k + m + 1 = Q
    simp only [factotumref17_Pieces.l0]
    subst hQ
    by_cases h0 : i < S.size
    · have hw : wrap64 ((i : Int) + (n : Int)) = ((i + n : Nat) : Int) := (IntWalk.wrap64_in _ ⟨by omega, by omega⟩).trans (by omega)
      have hm : mn ((i + n : Nat) : Int) (S.size : Int) = ((min (i + n) S.size : Nat) : Int) := by unfold mn; split <;> omega
      rw [if_pos (by omega), if_pos (by omega), hw, hm, if_pos (by omega), if_pos (by omega), if_pos (by omega), Int.toNat_natCast, Int.toNat_natCast]
      rw [ih k (i + n) _ (by omega) (by omega) (by rw [List.length_append, List.length_singleton]; omega)]
      have hne : S.data.toList.drop i ≠ [] := by
        intro he
        have := congrArg List.length he
        rw [List.length_drop, hz, List.length_nil] at this; omega
      have hx : S.extract i (min (i + n) S.size) = B ((S.data.toList.drop i).take n) := by
        refine ext ?_
        rw [Lib.extract_data, B_data]
        rcases Nat.le_total (i + n) S.size with h | h
        · rw [Nat.min_eq_left h, Nat.add_sub_cancel_left]
        · rw [Nat.min_eq_right h, List.take_of_length_le (by rw [List.length_drop, hz]; omega), List.take_of_length_le (by rw [List.length_drop, hz]; omega)]
      rw [hx]
      have hc : cutS n (m + 1) (S.data.toList.drop i) = (S.data.toList.drop i).take n :: cutS n m (S.data.toList.drop (i + n)) := by
        rw [← List.drop_drop]; conv => lhs; unfold cutS
        rw [if_neg hne]
      rw [hc]; simp
    · rw [if_neg (by omega), List.drop_eq_nil_of_le (by omega), cutS_nil]; simp
theorem join_flat : ∀ (xs : List (List UInt8)), Lib.join xs [] = xs.flatten := by
  intro xs
  induction xs with
  | nil => rfl
  | cons x r ih =>
    cases r with
    | nil => simp [Lib.join, List.intercalate]
    | cons y r =>
      unfold Lib.join List.intercalate at ih ⊢
      rw [List.intersperse_cons_cons, List.flatten_cons, List.flatten_cons, ih]; simp
theorem law_go (xs : List (List UInt8)) (hne : ∀ x ∈ xs, x ≠ []) (hl : xs.length < 8796093022208) : ∀ (m k i : Nat), i + m = xs.length → factotumlaw17_EffectsPieces.l0 (k + m + 1) (xs.map B) (xs.map B) (i : Int) = some true := by
  intro m
  induction m with
  | zero => intro k i hi; generalize hQ : k + 0 = Q; simp only [factotumlaw17_EffectsPieces.l0]; rw [if_neg (by rw [List.length_map]; omega)]
  | succ m ih =>
    intro k i hi
    have hlt : i < xs.length := by omega
    rw [show k + (m + 1) + 1 = (k + m + 1) + 1 by omega]
    generalize hQ : k + m + 1 = Q
    simp only [factotumlaw17_EffectsPieces.l0]
    subst hQ
    have hr : rdOf ByteArray.empty (xs.map B) (i : Int) = B xs[i] := by
      unfold rdOf; rw [Int.toNat_natCast, List.getD_eq_getElem?_getD, List.getElem?_map, List.getElem?_eq_getElem hlt]; rfl
    rw [if_pos (by rw [List.length_map]; omega), if_pos (by omega), if_pos (by rw [List.length_map]; omega), hr, if_pos trivial, if_neg (by rw [B_list]; exact hne _ (List.getElem_mem hlt)), IntWalk.wrap64_in _ ⟨by omega, by omega⟩]
    exact ih k (i + 1) (by omega)
end Go.Proofs.YtjkjkebblkmpkaaDoor.XPc
namespace Go.Proofs.YtjkjkebblkmpkaaDoor.Pure
open Go.RowKit Go.Proofs.YtjkjkebblkmpkaaDoor.PAll Go.Proofs.YtjkjkebblkmpkaaDoorW.PrintWords Go.Proofs.YtjkjkebblkmpkaaDoor.XP Go.Proofs.YtjkjkebblkmpkaaDoor.XPc
theorem lives17 (k : Nat) : factotumlaw17_lives.f (k + 12) = some true := by
  have h : factotumlaw17_lives.f 12 = some true := by kernel_rfl
  induction k with
  | zero => exact h
  | succ k ih => rw [show k + 1 + 12 = (k + 12) + 1 by omega]; exact factotumlaw17_lives.mono _ _ ih
theorem EffectsPieces (s : ByteArray) (n : Int) (_hi : -9223372036854775808 ≤ n ∧ n < 9223372036854775808) (hb : (s.size + 1) + 1 ≤ 1048576) : ∃ k, factotumlaw17_EffectsPieces.f k s n = some true := by
  refine ⟨s.size + 12, ?_⟩
  have hz : s.data.toList.length = s.size := (Lib.size_eq s).symm
  obtain ⟨xs, h1, h2, hf, hne, hln⟩ : ∃ xs : List (List UInt8), effects_Pieces.f (s.size + 12) s n = some (xs.map B) ∧ factotumref17_Pieces.f (s.size + 12) s n = some (xs.map B) ∧ xs.flatten = s.data.toList ∧ (∀ x ∈ xs, x ≠ []) ∧ xs.length ≤ s.size := by
    by_cases h0 : s.data.toList = []
    · have hs0 : s.size = 0 := by rw [← hz, h0]; rfl
      refine ⟨[], ?_, ?_, by rw [h0]; rfl, by simp, Nat.zero_le _⟩
      · unfold effects_Pieces.f
        rw [hs0]
        split
        · simp only [effects_Pieces.j0, effects_Pieces.l0]; rw [if_pos (by rw [Lib.toList_data, h0])]; rfl
        · simp only [effects_Pieces.j0, effects_Pieces.l0]; rw [if_pos (by rw [Lib.toList_data, h0])]; rfl
      · unfold factotumref17_Pieces.f
        rw [if_pos (by rw [Lib.toList_data, h0])]; rfl
    · have hp : 0 < s.size := by rw [← hz]; exact List.length_pos_iff.2 h0
      have hpp : ∀ q : Nat, 1 ≤ q → effects_Pieces.j0 (s.size + 12) s (q : Int) = some ((cutS q s.size s.data.toList).map B) := by
        intro q hq
        have := p_go q hq s.size 10 s.data.toList [] (by omega) (by simp; omega)
        rw [← of_B, List.nil_append] at this
        rw [show s.size + 12 = (10 + s.size + 1) + 1 by omega]
        generalize hQ : 10 + s.size + 1 = Q at this ⊢
        simp only [effects_Pieces.j0]
        exact this
      by_cases hn1 : n < 1
      · refine ⟨[s.data.toList], ?_, ?_, by simp, by simpa using h0, by simp; omega⟩
        · unfold effects_Pieces.f
          rw [if_pos hn1, hpp s.size hp, cutS_whole _ _ h0 (by omega) _ (by omega)]
        · unfold factotumref17_Pieces.f
          rw [if_neg (by rw [Lib.toList_data]; exact h0), if_pos hn1]
          simp only [factotumref17_Pieces.j0]
          rw [if_pos trivial, List.map_cons, List.map_nil, ← of_B]
      · obtain ⟨q, rfl⟩ : ∃ q : Nat, n = (q : Int) := ⟨n.toNat, by omega⟩
        by_cases hge : s.size ≤ q
        · refine ⟨[s.data.toList], ?_, ?_, by simp, by simpa using h0, by simp; omega⟩
          · unfold effects_Pieces.f
            rw [if_neg hn1, hpp q (by omega), cutS_whole _ _ h0 (by omega) _ (by omega)]
          · unfold factotumref17_Pieces.f
            rw [if_neg (by rw [Lib.toList_data]; exact h0), if_neg hn1, decide_eq_true (by omega)]
            simp only [factotumref17_Pieces.j0]
            rw [if_pos trivial, List.map_cons, List.map_nil, ← of_B]
        · refine ⟨cutS q s.size s.data.toList, ?_, ?_, cutS_flat q (by omega) _ _ (by omega), cutS_ne q (by omega) _ _, by have := cutS_len q (by omega) s.size s.data.toList; omega⟩
          · unfold effects_Pieces.f
            rw [if_neg hn1, hpp q (by omega)]
          · unfold factotumref17_Pieces.f
            rw [if_neg (by rw [Lib.toList_data]; exact h0), if_neg hn1, decide_eq_false (by omega)]
            have := r_go s q (by omega) (by omega) s.size 10 0 [] (by omega) (by omega) (by simp; omega)
            rw [show s.size + 12 = (10 + s.size + 1) + 1 by omega]
            rw [List.drop_zero, List.nil_append, show ((0 : Nat) : Int) = 0 from rfl] at this
            generalize hQ : 10 + s.size + 1 = Q at this ⊢
            simp only [factotumref17_Pieces.j0]
            rw [if_neg (by decide)]
            exact this
  unfold factotumlaw17_EffectsPieces.f
  rw [lives17 s.size, Option.bind_some, if_pos rfl, h1, Option.bind_some, h2, Option.bind_some, if_pos rfl]
  have hw : effects_Whole.f (xs.map B) = some s := by
    unfold effects_Whole.f strings_Join.f
    have e : ((xs.map B).map (·.data.toList)) = xs := by
      rw [List.map_map]
      exact (List.map_congr_left (fun _ _ => rfl)).trans (List.map_id xs)
    rw [e, join_flat, hf, if_pos ⟨rfl, by rw [List.length_map]; omega, by omega⟩, Option.bind_some]
  rw [hw, Option.bind_some]
  have hj := law_go xs hne (by omega) xs.length (s.size + 10 - xs.length) 0 (by omega)
  rw [show s.size + 10 - xs.length + xs.length + 1 = s.size + 11 by omega, show ((0 : Nat) : Int) = 0 from rfl] at hj
  rw [show s.size + 12 = (s.size + 11) + 1 by omega]
  generalize hQ : s.size + 11 = Q at hj ⊢
  simp only [factotumlaw17_EffectsPieces.j0]
  rw [if_neg (by simp)]
  exact hj
end Go.Proofs.YtjkjkebblkmpkaaDoor.Pure
