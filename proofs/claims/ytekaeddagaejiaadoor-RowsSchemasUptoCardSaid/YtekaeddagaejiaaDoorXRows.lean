/- Schemas, rows and keys: which may be, what they are as bytes: what the program and the document's answer compute. Plain laws over the printed functions. No conditions. -/
import Derived.Test.YtekaeddagaejiaaDoorXVal
import Derived.Test.YtekaeddagaejiaaDoorXBack
namespace Go.Proofs.YtekaeddagaejiaaDoor.XR
open Go.RowKit Go.Proofs.YtekaeddagaejiaaDoor.XW Go.Proofs.YtekaeddagaejiaaDoor.XLib Go.Proofs.YtekaeddagaejiaaDoor.PAll Go.Proofs.YtekaeddagaejiaaDoorW.PrintWords Go.Proofs.YtekaeddagaejiaaDoorW.PrintLast Go.Proofs.YtekaeddagaejiaaDoor.XP Go.Proofs.YtekaeddagaejiaaDoor.XV
theorem pnumk {k : Nat} (hk : 9 ≤ k) (x : List Int) (n : Int) (w : Nat) (hw : 1 ≤ w ∧ w ≤ 8) (hx : x.length + 8 < 140737488355328) : pack_Num.f k x n w = some (x ++ bi (beN w n)) := by
  obtain ⟨j, rfl⟩ : ∃ j, k = j + 9 := ⟨k - 9, by omega⟩
  exact pnum j x n w hw hx
theorem rnumwk {k : Nat} (hk : 9 ≤ k) (n : Int) (w : Nat) (hw : 1 ≤ w ∧ w ≤ 8) (h0 : 0 ≤ n) (h1 : n < 18446744073709551616) : factotumref01_Num.f k n w = some (B (beN w n)) := by
  obtain ⟨j, rfl⟩ : ∃ j, k = j + 9 := ⟨k - 9, by omega⟩
  exact rnumw j n w hw h0 h1
theorem rRnumk {S : ByteArray} {l : List UInt8} {k : Nat} (hk : 9 ≤ k) (e : Int) (w : Nat) (hw : 1 ≤ w ∧ w ≤ 8) (hS : S.size < 140737488355328) (h : Suf S l) :
    factotumref01_Reader_Num.f k S (pos S l) e w = some ((numE l e w).1, S, pos S (numE l e w).2.1, (numE l e w).2.2) := by
  obtain ⟨j, rfl⟩ : ∃ j, k = j + 9 := ⟨k - 9, by omega⟩
  exact rRnum j e w hw hS h
theorem rdn (l : List Int) (i : Nat) (h : i < l.length) : rd l (i : Int) = l[i] := by
  unfold rd; rw [Int.toNat_natCast, List.getD_eq_getElem?_getD, List.getElem?_eq_getElem h]; rfl
theorem rdv (l : List S29) (i : Nat) (h : i < l.length) : rd_T29 l (i : Int) = l[i] := rd39_at l i h
theorem nexti (i : Nat) (h : i < 140737488355328) : wrap64 ((i : Int) + 1) = ((i + 1 : Nat) : Int) := (IntWalk.wrap64_in _ ⟨by omega, by omega⟩).trans (by omega)
/-! ## schemas -/
def okK (k : Int) : Bool := k == 1 || k == 2
def rightS (ks : List Int) (u x : Int) : Bool := decide (1 ≤ ks.length ∧ ks.length ≤ 4) && ks.all okK && decide (0 ≤ u ∧ u < ks.length) && (decide (0 ≤ x ∧ x < ks.length) && (decide (x = 0) || rd ks x == 1))
theorem odd_k (k : Int) : rows_odd.f k = some (!okK k) := by
  unfold rows_odd.f okK
  by_cases h : k = 1
  · subst h; rfl
  · have h1 : (k == 1) = false := beq_eq_false_iff_ne.2 h
    rw [if_neg h, h1]; simp [bne]
theorem index_k (l : List Int) (hl : l.length < 140737488355328) : ∀ m i k : Nat, i + m = l.length → ∃ r, slices_IndexFunc_at_rows_odd.l0 (k + m + 1) l (l.length : Int) (i : Int) = some r ∧ decide (r ≥ 0) = !(l.drop i).all okK := by
  intro m
  induction m with
  | zero =>
    intro i k hi
    refine ⟨-1, ?_, ?_⟩
    · simp only [slices_IndexFunc_at_rows_odd.l0]; rw [if_neg (by omega)]
    · rw [List.drop_eq_nil_of_le (by omega)]; rfl
  | succ m ih =>
    intro i k hi
    have hlt : i < l.length := by omega
    rw [show k + (m + 1) + 1 = (k + m + 1) + 1 by omega]
    generalize hK : k + m + 1 = K
    simp only [slices_IndexFunc_at_rows_odd.l0]
    subst hK
    rw [if_pos (by omega), if_pos (by omega), if_pos (by omega), rdn l i hlt, odd_k, Option.bind_some, List.drop_eq_getElem_cons hlt, List.all_cons]
    cases ho : okK l[i] with
    | false => exact ⟨(i : Int), if_pos rfl, by simp⟩
    | true =>
      rw [if_neg (by decide), nexti i (by omega)]
      obtain ⟨r, h1, h2⟩ := ih (i + 1) k (by omega)
      exact ⟨r, h1, by rw [h2]; simp⟩
theorem contains_k (l : List Int) (hl : l.length < 140737488355328) (k : Nat) : slices_ContainsFunc_at_rows_odd.f (k + l.length + 1) l = some (!l.all okK) := by
  obtain ⟨r, h1, h2⟩ := index_k l hl l.length 0 k (by omega)
  unfold slices_ContainsFunc_at_rows_odd.f slices_IndexFunc_at_rows_odd.f
  rw [show (0 : Int) = ((0 : Nat) : Int) from rfl, h1, Option.bind_some]
  exact congrArg some h2
theorem col (a : Int) (n : Nat) : rows_column.f a n = some (decide (0 ≤ a ∧ a < n)) := by
  unfold rows_column.f
  by_cases h : a ≥ 0
  · rw [if_pos h]; congr 1; simp [h]
  · rw [if_neg h, decide_eq_false (by omega)]
theorem p_right (ks : List Int) (u x : Int) {k : Nat} (hk : 8 ≤ k) : rows_Right.f k ks u x = some (rightS ks u x) := by
  obtain ⟨k, rfl⟩ : ∃ j, k = j + 1 := ⟨k - 1, by omega⟩
  have hj : ∀ b : Bool, rows_Right.j0 (k + 1) (ks.length : Int) b ks u x = if b = true then some false else some (decide (0 ≤ u ∧ u < ks.length) && (decide (0 ≤ x ∧ x < ks.length) && (decide (x = 0) || rd ks x == 1))) := by
    intro b
    simp only [rows_Right.j0]
    cases b with
    | true => rfl
    | false =>
      simp only [Bool.false_eq_true, if_false]
      rw [col, Option.bind_some, col, Option.bind_some]
      by_cases h1 : 0 ≤ u ∧ u < ks.length
      · rw [decide_eq_true h1, if_pos rfl]
        by_cases h2 : 0 ≤ x ∧ x < ks.length
        · rw [decide_eq_true h2, if_pos rfl]
          by_cases h3 : x = 0
          · rw [if_pos h3, decide_eq_true h3]; rfl
          · rw [if_neg h3, if_pos h2.1, if_pos h2.2, decide_eq_false h3]; rfl
        · rw [decide_eq_false h2]; rfl
      · rw [decide_eq_false h1]; rfl
  unfold rows_Right.f rightS
  by_cases h0 : ks.length = 0
  · rw [if_pos (by omega), hj, decide_eq_false (show ¬ (1 ≤ ks.length ∧ ks.length ≤ 4) by omega)]; simp
  · by_cases h4 : ks.length ≤ 4
    · have hc := contains_k ks (by omega) (k - ks.length)
      rw [show k - ks.length + ks.length + 1 = k + 1 by omega] at hc
      rw [if_neg (by omega), if_neg (by omega), hc, Option.bind_some, hj, decide_eq_true (show 1 ≤ ks.length ∧ ks.length ≤ 4 by omega)]
      cases ks.all okK <;> simp
    · rw [if_neg (by omega), if_pos (by omega), hj, decide_eq_false (show ¬ (1 ≤ ks.length ∧ ks.length ≤ 4) by omega)]; simp
theorem r_right_go (ks : List Int) (u x : Int) (hl : ks.length < 140737488355328) (hx : 0 ≤ x ∧ x < ks.length) : ∀ m i k : Nat, i + m = ks.length →
    factotumref03_Right.l0 (k + m + 1) (ks.length : Int) (i : Int) ks u x = some ((ks.drop i).all okK && (decide (x = 0) || rd ks x == 1)) := by
  intro m
  induction m with
  | zero =>
    intro i k hi
    simp only [factotumref03_Right.l0]
    rw [if_neg (by omega), List.drop_eq_nil_of_le (by omega)]
    by_cases h3 : x = 0
    · rw [if_pos h3, decide_eq_true h3]; rfl
    · rw [if_neg h3, if_pos hx.1, if_pos hx.2, decide_eq_false h3]; rfl
  | succ m ih =>
    intro i k hi
    have hlt : i < ks.length := by omega
    rw [show k + (m + 1) + 1 = (k + m + 1) + 1 by omega]
    generalize hK : k + m + 1 = K
    simp only [factotumref03_Right.l0]
    subst hK
    rw [if_pos (by omega), if_pos (by omega), if_pos (by omega), rdn ks i hlt, List.drop_eq_getElem_cons hlt, List.all_cons, nexti i (by omega)]
    have e := ih (i + 1) k (by omega)
    by_cases h1 : ks[i] = 1
    · rw [if_pos h1, e]; simp [okK, h1]
    · rw [if_neg h1]
      by_cases h2 : ks[i] = 2
      · rw [if_pos h2, e]; simp [okK, h2]
      · rw [if_neg h2]; simp [okK, h1, h2]
theorem r_right (ks : List Int) (u x : Int) {k : Nat} (hk : 8 ≤ k) : factotumref03_Right.f k ks u x = some (rightS ks u x) := by
  obtain ⟨k, rfl⟩ : ∃ j, k = j + 1 := ⟨k - 1, by omega⟩
  have ht : factotumref03_Right.j0 (k + 1) (ks.length : Int) true ks u x = some false := by simp only [factotumref03_Right.j0]; rfl
  unfold factotumref03_Right.f rightS
  by_cases h0 : 1 ≤ ks.length
  · by_cases h4 : ks.length ≤ 4
    · rw [if_neg (by omega), if_neg (by omega), decide_eq_true (show 1 ≤ ks.length ∧ ks.length ≤ 4 from ⟨h0, h4⟩)]
      by_cases hu : 0 ≤ u ∧ u < ks.length
      · rw [if_neg (by omega), if_neg (by omega), decide_eq_true hu]
        by_cases hx : 0 ≤ x
        · rw [if_neg (by omega)]
          by_cases hx2 : x < ks.length
          · rw [decide_eq_false (show ¬ (x ≥ (ks.length : Int)) by omega), decide_eq_true (show 0 ≤ x ∧ x < (ks.length : Int) from ⟨hx, hx2⟩)]
            simp only [factotumref03_Right.j0]
            rw [if_neg (by decide)]
            have := r_right_go ks u x (by omega) ⟨hx, hx2⟩ ks.length 0 (k - ks.length - 1) (by omega)
            rw [show k - ks.length - 1 + ks.length + 1 = k by omega, List.drop_zero] at this
            rw [show (0 : Int) = ((0 : Nat) : Int) from rfl, this]; simp
          · rw [decide_eq_true (show x ≥ (ks.length : Int) by omega), ht, decide_eq_false (show ¬ (0 ≤ x ∧ x < (ks.length : Int)) by omega)]; simp
        · rw [if_pos (by omega), ht, decide_eq_false (show ¬ (0 ≤ x ∧ x < (ks.length : Int)) by omega)]; simp
      · rw [decide_eq_false hu]
        by_cases hu0 : u < 0
        · rw [if_pos hu0, ht]; simp
        · rw [if_neg hu0, if_pos (by omega), ht]; simp
    · rw [if_neg (by omega), if_pos (by omega), ht, decide_eq_false (show ¬ (1 ≤ ks.length ∧ ks.length ≤ 4) by omega)]; simp
  · rw [if_pos (by omega), ht, decide_eq_false (show ¬ (1 ≤ ks.length ∧ ks.length ≤ 4) by omega)]; simp
/-! ## values that fit -/
def fitV (k : Int) (v : S29) : Bool := decide (v.f0 = k) && valOK v
theorem p_fit (k : Int) (v : S29) (h : v.f2.size ≤ 1099511627776) : rows_fits.f k v.f0 v.f1 v.f2 = some (fitV k v) := by
  unfold rows_fits.f fitV
  rw [show ([(⟨v.f0, v.f1, v.f2⟩ : S29)] : List S29) = [v] from rfl, kw1 v h]
  unfold valOK
  cases oddV v with
  | true => simp
  | false =>
    show (if (0 : Int) = 0 then if v.f0 = k then some (decide ((v.f2.size : Int) ≤ 10)) else some false else some false) = _
    rw [if_pos rfl]
    by_cases h1 : v.f0 = k
    · rw [if_pos h1, decide_eq_true h1]; congr 1
      by_cases hs : v.f2.size ≤ 10
      · rw [decide_eq_true (by omega), decide_eq_true hs]; rfl
      · rw [decide_eq_false (by omega), decide_eq_false hs]; rfl
    · rw [if_neg h1, decide_eq_false h1]; rfl
def all2 (ks : List Int) (r : List S29) : Bool := (ks.zip r).all fun p => fitV p.1 p.2
theorem all2_cons (k : Int) (ks : List Int) (v : S29) (r : List S29) : all2 (k :: ks) (v :: r) = (fitV k v && all2 ks r) := by simp [all2]
def bd (r : List S29) : Prop := ∀ v ∈ r, v.f2.size ≤ 1099511627776
theorem p_all_go (ks : List Int) (r : List S29) (hn : ks.length = r.length) (hl : ks.length < 140737488355328) (hb : bd r) : ∀ m i k : Nat, i + m = ks.length →
    slices_EqualFunc_at_rows_fits.l0 (k + m + 1) r ks (ks.length : Int) (i : Int) = some (all2 (ks.drop i) (r.drop i)) := by
  intro m
  induction m with
  | zero =>
    intro i k hi
    simp only [slices_EqualFunc_at_rows_fits.l0]
    rw [if_neg (by omega), List.drop_eq_nil_of_le (by omega)]; rfl
  | succ m ih =>
    intro i k hi
    have hlt : i < ks.length := by omega
    have hlr : i < r.length := by omega
    rw [show k + (m + 1) + 1 = (k + m + 1) + 1 by omega]
    generalize hK : k + m + 1 = K
    simp only [slices_EqualFunc_at_rows_fits.l0]
    subst hK
    rw [if_pos (by omega), if_pos (by omega), if_pos (by omega), if_pos (by omega), rdn ks i hlt, rdv r i hlr, p_fit _ _ (hb _ (List.getElem_mem hlr)), Option.bind_some, List.drop_eq_getElem_cons hlt, List.drop_eq_getElem_cons hlr, all2_cons, nexti i (by omega)]
    cases fitV ks[i] r[i] with
    | false => rfl
    | true => rw [if_pos rfl, ih (i + 1) k (by omega), Bool.true_and]
/-- why a row doesn't fit -/
def fitsE (ks : List Int) (u x : Int) (r : List S29) : Int := if rightS ks u x = true then (if r.length = ks.length then (if all2 ks r = true then 0 else 6) else 7) else 4
theorem right_len {ks : List Int} {u x : Int} (h : rightS ks u x = true) : 1 ≤ ks.length ∧ ks.length ≤ 4 := by
  unfold rightS at h; simp only [Bool.and_eq_true, decide_eq_true_eq] at h; exact h.1.1.1
theorem p_fits (ks : List Int) (u x : Int) (r : List S29) (hb : bd r) {k : Nat} (hk : 16 ≤ k) : rows_Fits.f k ks u x r = some (fitsE ks u x r) := by
  unfold rows_Fits.f fitsE
  rw [p_right ks u x (by omega), Option.bind_some]
  cases hr : rightS ks u x with
  | false => rfl
  | true =>
    have hl := right_len hr
    rw [if_pos rfl, if_pos rfl]
    by_cases hn : r.length = ks.length
    · rw [if_pos (by omega), if_pos hn]
      unfold slices_EqualFunc_at_rows_fits.f
      have := p_all_go ks r hn.symm (by omega) hb ks.length 0 (k - ks.length - 1) (by omega)
      rw [show k - ks.length - 1 + ks.length + 1 = k by omega] at this
      rw [if_pos (by omega), show (0 : Int) = ((0 : Nat) : Int) from rfl, this, Option.bind_some]
      simp only [List.drop_zero]
      cases all2 ks r <;> rfl
    · rw [if_neg (by omega), if_neg hn]
/-! ## keys -/
def keyE (ks : List Int) (u x : Int) (v : S29) : List UInt8 × Int := if rightS ks u x = true then (if fitV (rd ks 0) v = true then (encV v, 0) else ([], 6)) else ([], 4)
theorem fit_ok {k : Int} {v : S29} (h : fitV k v = true) : v.f0 = k ∧ valOK v = true := by unfold fitV at h; simpa using h
theorem ok_parts {v : S29} (h : valOK v = true) : oddV v = false ∧ v.f2.size ≤ 10 := by unfold valOK at h; simpa using h
theorem kw_ok {v : S29} (h : valOK v = true) : keys_Write.f [v] = some (B (encV v), 0) := by
  have := ok_parts h
  rw [kw1 v (by omega), this.1]; rfl
theorem p_key (ks : List Int) (u x : Int) (v : S29) (hb : v.f2.size ≤ 1099511627776) {k : Nat} (hk : 16 ≤ k) : rows_Key.f k ks u x v.f0 v.f1 v.f2 = some (B (keyE ks u x v).1, (keyE ks u x v).2) := by
  unfold rows_Key.f keyE
  rw [p_right ks u x (by omega), Option.bind_some]
  cases hr : rightS ks u x with
  | false => rfl
  | true =>
    have hl := right_len hr
    rw [if_pos rfl, if_pos rfl, if_pos (by omega), p_fit _ _ hb, Option.bind_some]
    cases hf : fitV (rd ks 0) v with
    | false => rfl
    | true =>
      rw [if_pos rfl, if_pos rfl, show ([(⟨v.f0, v.f1, v.f2⟩ : S29)] : List S29) = [v] from rfl, kw_ok (fit_ok hf).2]; rfl
/-! ## rows as bytes -/
def encR (v : S29) : List UInt8 := if v.f0 = 1 then beN 8 (IntKind.u64.wrap v.f1) else UInt8.ofNat (min v.f2.data.toList.length 255) :: v.f2.data.toList.take 255
def restB (r : List S29) : List UInt8 := r.flatMap encR
theorem restB_cons (v : S29) (r : List S29) : restB (v :: r) = encR v ++ restB r := by simp [restB]
theorem encR_len (v : S29) : (encR v).length ≤ 256 := by
  unfold encR; split
  · rw [beN_len]; omega
  · rw [List.length_cons, List.length_take]; omega
theorem u64_bd (n : Int) : 0 ≤ IntKind.u64.wrap n ∧ IntKind.u64.wrap n < 18446744073709551616 := by rw [wrapu]; omega
theorem p_write_go (key : ByteArray) (r : List S29) (hl : r.length ≤ 4) : ∀ (m i k : Nat) (b : List UInt8), i + m = r.length → b.length ≤ 256 * i →
    rows_Write.l0 (k + m + 16) key (bi b) r (r.length : Int) (i : Int) = some (key, B (b ++ restB (r.drop i)), 0) := by
  intro m
  induction m with
  | zero =>
    intro i k b hi hb
    rw [show k + 0 + 16 = (k + 15) + 1 by omega]
    simp only [rows_Write.l0]
    rw [if_neg (by omega), List.drop_eq_nil_of_le (by omega), strB]; simp [restB]
  | succ m ih =>
    intro i k b hi hb
    have hlt : i < r.length := by omega
    rw [show k + (m + 1) + 16 = (k + m + 16) + 1 by omega]
    generalize hK : k + m + 16 = K
    simp only [rows_Write.l0]
    subst hK
    have he := encR_len r[i]
    rw [if_pos (by omega), if_pos (by omega), if_pos (by omega), rdv r i hlt, nexti i (by omega), List.drop_eq_getElem_cons hlt, restB_cons]
    by_cases h1 : r[i].f0 = 1
    · rw [if_pos h1, show (8 : Int) = ((8 : Nat) : Int) from rfl, pnumk (by omega) _ _ 8 (by omega) (by rw [bi_len]; omega), Option.bind_some, ← bi_app]
      have e : encR r[i] = beN 8 (IntKind.u64.wrap r[i].f1) := by unfold encR; rw [if_pos h1]
      rw [← e, ih (i + 1) k _ (by omega) (by rw [List.length_append]; omega)]; simp
    · rw [if_neg h1, of_B r[i].f2, pstr _ _ (by rw [bi_len]; omega), Option.bind_some, ← bi_app]
      have e : encR r[i] = UInt8.ofNat (min r[i].f2.data.toList.length 255) :: r[i].f2.data.toList.take 255 := by unfold encR; rw [if_neg h1]
      rw [← e, ih (i + 1) k _ (by omega) (by rw [List.length_append]; omega)]; simp
/-- a row's key and rest, or why not -/
def writeE (ks : List Int) (u x : Int) (r : List S29) : List UInt8 × List UInt8 × Int := if fitsE ks u x r = 0 then (encV (rd_T29 r 0), restB (r.drop 1), 0) else ([], [], fitsE ks u x r)
theorem fits_ok {ks : List Int} {u x : Int} {r : List S29} (h : fitsE ks u x r = 0) : rightS ks u x = true ∧ r.length = ks.length ∧ all2 ks r = true := by
  unfold fitsE at h
  by_cases h1 : rightS ks u x = true
  · rw [if_pos h1] at h
    by_cases h2 : r.length = ks.length
    · rw [if_pos h2] at h
      by_cases h3 : all2 ks r = true
      · exact ⟨h1, h2, h3⟩
      · rw [if_neg h3] at h; cases h
    · rw [if_neg h2] at h; cases h
  · rw [if_neg h1] at h; cases h
theorem first_fit {ks : List Int} {r : List S29} (hn : r.length = ks.length) (h1 : 1 ≤ ks.length) (h : all2 ks r = true) : fitV (rd ks 0) (rd_T29 r 0) = true := by
  cases ks with
  | nil => simp at h1
  | cons k ks =>
    cases r with
    | nil => simp at hn
    | cons v r => rw [all2_cons, Bool.and_eq_true] at h; exact h.1
theorem p_write (ks : List Int) (u x : Int) (r : List S29) (hb : bd r) {k : Nat} (hk : 64 ≤ k) : rows_Write.f k ks u x r = some (B (writeE ks u x r).1, B (writeE ks u x r).2.1, (writeE ks u x r).2.2) := by
  unfold rows_Write.f writeE
  rw [p_fits ks u x r hb (by omega), Option.bind_some]
  by_cases h0 : fitsE ks u x r = 0
  · obtain ⟨hr, hn, ha⟩ := fits_ok h0
    have hl := right_len hr
    have hf := first_fit hn hl.1 ha
    have hm : rd_T29 r 0 ∈ r := by
      rw [show (0 : Int) = ((0 : Nat) : Int) from rfl, rdv r 0 (by omega)]; exact List.getElem_mem _
    rw [if_pos h0, if_pos h0, if_pos (by omega), p_key ks u x _ (hb _ hm) (by omega), Option.bind_some]
    have hk0 : keyE ks u x (rd_T29 r 0) = (encV (rd_T29 r 0), 0) := by unfold keyE; rw [if_pos hr, if_pos hf]
    rw [hk0]
    simp only
    rw [if_pos trivial, if_pos (by omega), Option.bind_some]
    have hd : (r.drop 1).length ≤ 4 := by rw [List.length_drop]; omega
    have := p_write_go (B (encV (rd_T29 r 0))) (r.drop 1) hd (r.drop 1).length 0 (k - (r.drop 1).length - 16) [] (by omega) (by simp)
    rw [show k - (r.drop 1).length - 16 + (r.drop 1).length + 16 = k by omega, List.drop_zero, List.nil_append] at this
    exact this
  · rw [if_neg h0, if_neg h0]
end Go.Proofs.YtekaeddagaejiaaDoor.XR
