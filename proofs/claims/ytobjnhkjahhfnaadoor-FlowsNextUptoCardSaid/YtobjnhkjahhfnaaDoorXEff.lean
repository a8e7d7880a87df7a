/- Values as bytes, and back: effects and the document's answer. Plain laws over the printed functions. No conditions. -/
import Derived.Test.YtobjnhkjahhfnaaDoorXVal
namespace Go.Proofs.YtobjnhkjahhfnaaDoor.XE
open Go.RowKit Go.Proofs.YtobjnhkjahhfnaaDoor.XW Go.Proofs.YtobjnhkjahhfnaaDoor.XLib Go.Proofs.YtobjnhkjahhfnaaDoor.PAll Go.Proofs.YtobjnhkjahhfnaaDoorW.PrintWords Go.Proofs.YtobjnhkjahhfnaaDoorW.PrintLast Go.Proofs.YtobjnhkjahhfnaaDoor.XP Go.Proofs.YtobjnhkjahhfnaaDoor.XV
theorem e_odd (v : S24) (h : v.f2.size ≤ 1099511627776) : effects_odd.f v.f0 v.f1 v.f2 = some (!valOK v) := by
  unfold effects_odd.f
  rw [show ([(⟨v.f0, v.f1, v.f2⟩ : S24)] : List S24) = [v] from rfl, kw1 v h]
  unfold valOK
  cases oddV v with
  | true => rfl
  | false =>
    show (if (0 : Int) = 0 then some (decide ((v.f2.size : Int) > 10)) else some true) = _
    rw [if_pos rfl]
    congr 1
    by_cases hs : v.f2.size ≤ 10
    · rw [decide_eq_false (by omega), decide_eq_true hs]; rfl
    · rw [decide_eq_true (by omega), decide_eq_false hs]; rfl
theorem r_is (v : S24) : factotumref16_Is.f v.f0 v.f1 v.f2 = some (valOK v) := by
  unfold factotumref16_Is.f valOK
  rw [right_odd, Option.bind_some]
  cases oddV v with
  | true => rfl
  | false =>
    show (if true = true then some (decide ((v.f2.size : Int) ≤ 10)) else some false) = _
    rw [if_pos rfl]
    congr 1
    by_cases hs : v.f2.size ≤ 10
    · rw [decide_eq_true (by omega), decide_eq_true hs]; rfl
    · rw [decide_eq_false (by omega), decide_eq_false hs]; rfl
/-- a value's bytes -/
def encE (v : S24) : List UInt8 := UInt8.ofNat (v.f0 % 256).toNat :: (if v.f0 = 1 then beN 8 (IntKind.u64.wrap v.f1) else UInt8.ofNat (min v.f2.data.toList.length 255) :: v.f2.data.toList.take 255)
theorem e_put (k : Nat) (x : List UInt8) (v : S24) (hx : x.length + 300 < 140737488355328) : effects_put.f (k + 9) (bi x) v.f0 v.f1 v.f2 = some (bi (x ++ encE v)) := by
  unfold effects_put.f encE
  have hb : bi x ++ [v.f0 % 256] = bi (x ++ [UInt8.ofNat (v.f0 % 256).toNat]) := by rw [bi_app]; unfold bi; simp only [List.map_cons, List.map_nil]; rw [bback]
  rw [if_pos (by rw [bi_len]; omega), Option.bind_some, hb]
  have hl : (bi (x ++ [UInt8.ofNat (v.f0 % 256).toNat])).length = x.length + 1 := by rw [bi_len]; simp
  by_cases h1 : v.f0 = 1
  · rw [if_pos h1, if_pos h1, show (8 : Int) = ((8 : Nat) : Int) from rfl, pnum k _ _ 8 (by omega) (by rw [hl]; omega), Option.bind_some, ← bi_app]; simp
  · rw [if_neg h1, if_neg h1, of_B v.f2, pstr _ _ (by rw [hl]; omega), Option.bind_some, ← bi_app]; simp
theorem e_value (k : Nat) (v : S24) (h : v.f2.size ≤ 1099511627776) : effects_Value.f (k + 9) v.f0 v.f1 v.f2 = if valOK v = true then some (B (encE v), 0) else some (⟨#[]⟩, 6) := by
  unfold effects_Value.f
  rw [e_odd v h, Option.bind_some]
  cases valOK v with
  | true =>
    rw [if_neg (by decide), if_pos rfl, show ([] : List Int) = bi [] from rfl, e_put k [] v (by simp), Option.bind_some, strB]; rfl
  | false => rfl
/-- the next value: what it is, may it be, what is behind it -/
def getE (l : List UInt8) (e : Int) : S24 × Bool × List UInt8 × Int :=
  if (numE l e 1).1 = 1 then
    (⟨1, wrap64 (numE (numE l e 1).2.1 (numE l e 1).2.2 8).1, ⟨#[]⟩⟩, decide ((numE (numE l e 1).2.1 (numE l e 1).2.2 8).2.2 = 0) && valOK ⟨1, wrap64 (numE (numE l e 1).2.1 (numE l e 1).2.2 8).1, ⟨#[]⟩⟩,
      (numE (numE l e 1).2.1 (numE l e 1).2.2 8).2.1, (numE (numE l e 1).2.1 (numE l e 1).2.2 8).2.2)
  else
    (⟨(numE l e 1).1, 0, B (strE (numE l e 1).2.1 (numE l e 1).2.2 10).1⟩, decide ((strE (numE l e 1).2.1 (numE l e 1).2.2 10).2.2 = 0) && valOK ⟨(numE l e 1).1, 0, B (strE (numE l e 1).2.1 (numE l e 1).2.2 10).1⟩,
      (strE (numE l e 1).2.1 (numE l e 1).2.2 10).2.1, (strE (numE l e 1).2.1 (numE l e 1).2.2 10).2.2)
theorem strE_len (l : List UInt8) (e : Int) (m : Nat) : (strE l e m).1.length ≤ 255 := by
  unfold strE
  split
  · cases l with
    | nil => simp
    | cons c r =>
      have := c.toNat_lt
      show (if m < c.toNat then ([], c :: r, (3 : Int)) else if r.length < c.toNat then ([], c :: r, 2) else (r.take c.toNat, r.drop c.toNat, 0)).1.length ≤ 255
      (repeat' split) <;> simp; omega
  · simp
theorem kind_in (l : List UInt8) (e : Int) : wrap64 (numE l e 1).1 = (numE l e 1).1 := by
  have := numE_bd l e 1 (by omega)
  rw [show ((256 ^ 1 : Nat) : Int) = 256 from rfl] at this
  unfold wrap64; omega
theorem getE_suf (l : List UInt8) (e : Int) : ∃ p, l = p ++ (getE l e).2.2.1 := by
  obtain ⟨p, hp⟩ := numE_suf l e 1
  unfold getE
  split
  · obtain ⟨q, hq⟩ := numE_suf (numE l e 1).2.1 (numE l e 1).2.2 8
    exact ⟨p ++ q, by rw [List.append_assoc]; simp only; rw [← hq]; exact hp⟩
  · obtain ⟨q, hq⟩ := strE_suf (numE l e 1).2.1 (numE l e 1).2.2 10
    exact ⟨p ++ q, by rw [List.append_assoc]; simp only; rw [← hq]; exact hp⟩
/-- the value of bytes -/
def unvE (l : List UInt8) : S24 × Int := if (getE l 0).2.1 = true ∧ doneE (getE l 0).2.2.1 (getE l 0).2.2.2 = 0 then ((getE l 0).1, 0) else (⟨0, 0, ⟨#[]⟩⟩, 10)
theorem numE_one (c : UInt8) (r : List UInt8) : numE (c :: r) 0 1 = ((c.toNat : Int), r, 0) := by
  unfold numE
  rw [if_pos rfl, if_neg (by simp)]
  have : beNum [c] = (c.toNat : Int) := by have := c.toNat_lt; show beStep 0 c = _; unfold beStep; omega
  simp [this]
theorem numE_len (l : List UInt8) (w : Nat) (h : l.length = w) : numE l 0 w = (beNum l, [], 0) := by
  unfold numE
  rw [if_pos rfl, if_neg (by omega), List.take_of_length_le (by omega), List.drop_eq_nil_of_le (by omega)]
theorem numE_app (a b : List UInt8) (w : Nat) (h : a.length = w) : numE (a ++ b) 0 w = (beNum a, b, 0) := by
  subst h
  unfold numE
  rw [if_pos rfl, if_neg (by simp), List.take_left, List.drop_left]
theorem strE_app (s b : List UInt8) (m : Nat) (h : s.length ≤ m) (hm : m < 256) : strE (UInt8.ofNat s.length :: (s ++ b)) 0 m = (s, b, 0) := by
  have hc : (UInt8.ofNat s.length).toNat = s.length := by rw [UInt8.toNat_ofNat']; omega
  unfold strE
  simp only [if_pos, hc]
  rw [if_neg (by omega), if_neg (by simp), List.take_left, List.drop_left]
theorem u64_back (n : Int) (h : -9223372036854775808 ≤ n ∧ n < 9223372036854775808) : wrap64 (IntKind.u64.wrap n) = n := by rw [wrapu]; unfold wrap64; omega
theorem u64_there (n : Int) (h : 0 ≤ n ∧ n < 18446744073709551616) : IntKind.u64.wrap (wrap64 n) = n := by rw [wrapu]; unfold wrap64; omega
/-- what is written is read again, whatever is behind it -/
theorem getE_enc (v : S24) (rest : List UInt8) (h : valOK v = true) (hn : -9223372036854775808 ≤ v.f1 ∧ v.f1 < 9223372036854775808) : getE (encE v ++ rest) 0 = (v, true, rest, 0) := by
  obtain ⟨a, n, s⟩ := v
  rcases ok_cases _ h with ⟨h1, h2⟩ | ⟨h1, h2, h3⟩
  · simp only at h1 h2 hn
    subst h1 h2
    have e : encE ⟨1, n, ⟨#[]⟩⟩ = 1 :: beN 8 (IntKind.u64.wrap n) := rfl
    have hu : 0 ≤ IntKind.u64.wrap n ∧ IntKind.u64.wrap n < 18446744073709551616 := by rw [wrapu]; omega
    unfold getE
    rw [e, List.cons_append, numE_one]
    rw [if_pos (show ((UInt8.toNat 1 : Nat) : Int) = 1 from rfl)]
    simp only
    rw [numE_app _ _ 8 (beN_len 8 _), beNum_beN 8 _ (by omega) hu.1 (by rw [show ((256 ^ 8 : Nat) : Int) = 18446744073709551616 from rfl]; exact hu.2)]
    simp only
    rw [u64_back n hn, ok_num]; rfl
  · simp only at h1 h2 h3 hn
    subst h1 h2
    have hl : s.data.toList.length = s.size := (Lib.size_eq _).symm
    have e : encE ⟨2, 0, s⟩ = 2 :: UInt8.ofNat s.data.toList.length :: s.data.toList := by
      unfold encE
      rw [if_neg (show ¬ ((2 : Int) = 1) by decide)]
      simp only
      rw [Nat.min_eq_left (by omega), List.take_of_length_le (by omega)]; rfl
    unfold getE
    rw [e, List.cons_append, numE_one, if_neg (show ¬ (((UInt8.toNat 2 : Nat) : Int) = 1) by decide)]
    simp only
    rw [List.cons_append, strE_app _ _ 10 (by omega) (by omega)]
    simp only
    rw [show B s.data.toList = s from (of_B s).symm, show ((UInt8.toNat 2 : Nat) : Int) = 2 from rfl, ok_text s h3]; rfl
theorem unvE_enc (v : S24) (h : valOK v = true) (hn : -9223372036854775808 ≤ v.f1 ∧ v.f1 < 9223372036854775808) : unvE (encE v) = (v, 0) := by
  have := getE_enc v [] h hn
  rw [List.append_nil] at this
  unfold unvE
  rw [this, if_pos ⟨rfl, rfl⟩]
/-- what is read is just what is written -/
theorem getE_inv (l : List UInt8) (h : (getE l 0).2.1 = true) : (getE l 0).2.2.2 = 0 ∧ valOK (getE l 0).1 = true ∧ l = encE (getE l 0).1 ++ (getE l 0).2.2.1 ∧ -9223372036854775808 ≤ (getE l 0).1.f1 ∧ (getE l 0).1.f1 < 9223372036854775808 := by
  cases l with
  | nil => 
    exfalso
    unfold getE numE at h
    simp at h
    revert h
    unfold strE
    simp
  | cons c r =>
    unfold getE at h ⊢
    rw [numE_one] at h ⊢
    by_cases h1 : ((c.toNat : Nat) : Int) = 1
    · rw [if_pos h1] at h ⊢
      simp only [Bool.and_eq_true, decide_eq_true_eq] at h ⊢
      obtain ⟨h2, h3⟩ := h
      refine ⟨h2, h3, ?_⟩
      have hc : c = 1 := UInt8.toNat_inj.1 (by have : c.toNat = 1 := by omega
                                               rw [this]; rfl)
      have hr : ¬ r.length < 8 := by intro hr; unfold numE at h2; rw [if_pos rfl, if_pos hr] at h2; cases h2
      have e : numE r 0 8 = (beNum (r.take 8), r.drop 8, 0) := by unfold numE; rw [if_pos rfl, if_neg hr]
      rw [e]
      have hl : (r.take 8).length = 8 := by rw [List.length_take]; omega
      have hb := beNum_lt (r.take 8) (by omega)
      rw [hl, show ((256 ^ 8 : Nat) : Int) = 18446744073709551616 from rfl] at hb
      have hb0 := (beNum_bd (r.take 8)).1
      refine ⟨?_, by unfold wrap64; omega⟩
      have e2 : encE ⟨1, wrap64 (beNum (r.take 8)), ⟨#[]⟩⟩ = 1 :: beN 8 (IntKind.u64.wrap (wrap64 (beNum (r.take 8)))) := rfl
      simp only
      rw [e2, u64_there _ ⟨hb0, hb⟩]
      have e3 := beN_beNum (r.take 8) (by omega)
      rw [hl] at e3
      rw [e3, hc, List.cons_append, List.take_append_drop]
    · rw [if_neg h1] at h ⊢
      simp only [Bool.and_eq_true, decide_eq_true_eq] at h ⊢
      obtain ⟨h2, h3⟩ := h
      refine ⟨h2, h3, ?_, by omega, by omega⟩
      cases r with
      | nil => unfold strE at h2; simp at h2
      | cons d t =>
        have hd : strE (d :: t) 0 10 = if 10 < d.toNat then ([], d :: t, 3) else if t.length < d.toNat then ([], d :: t, 2) else (t.take d.toNat, t.drop d.toNat, 0) := rfl
        rw [hd] at h2 h3 ⊢
        by_cases h4 : 10 < d.toNat
        · rw [if_pos h4] at h2; cases h2
        · rw [if_neg h4] at h2 h3 ⊢
          by_cases h5 : t.length < d.toNat
          · rw [if_pos h5] at h2; cases h2
          · rw [if_neg h5] at h3 ⊢
            rcases ok_cases _ h3 with ⟨h6, _⟩ | ⟨h6, _, _⟩
            · exact absurd h6 h1
            · simp only at h6 ⊢
              have hc : c = 2 := UInt8.toNat_inj.1 (by have : c.toNat = 2 := by omega
                                                       rw [this]; rfl)
              have hl : (t.take d.toNat).length = d.toNat := by rw [List.length_take]; omega
              have hdd : UInt8.ofNat d.toNat = d := UInt8.toNat_inj.1 (by rw [UInt8.toNat_ofNat']; have := d.toNat_lt; omega)
              rw [h6]
              unfold encE
              rw [if_neg (show ¬ ((2 : Int) = 1) by decide)]
              simp only
              rw [hl, Nat.min_eq_left (by omega), hdd, List.take_of_length_le (l := t.take d.toNat) (by omega), hc]
              simp
theorem unvE_inv (l : List UInt8) (h : (unvE l).2 = 0) : valOK (unvE l).1 = true ∧ encE (unvE l).1 = l ∧ -9223372036854775808 ≤ (unvE l).1.f1 ∧ (unvE l).1.f1 < 9223372036854775808 := by
  unfold unvE at h ⊢
  by_cases hc : (getE l 0).2.1 = true ∧ doneE (getE l 0).2.2.1 (getE l 0).2.2.2 = 0
  · rw [if_pos hc]
    obtain ⟨h1, h2⟩ := hc
    obtain ⟨h3, h4, h5, h6, h7⟩ := getE_inv l h1
    rw [h3] at h2
    have : (getE l 0).2.2.1 = [] := by
      unfold doneE at h2; rw [if_pos rfl] at h2
      by_cases hn : (getE l 0).2.2.1 = []
      · exact hn
      · rw [if_neg hn] at h2; cases h2
    refine ⟨h4, ?_, h6, h7⟩
    rw [this, List.append_nil] at h5
    exact h5.symm
  · rw [if_neg hc] at h; cases h
theorem unvE_size (l : List UInt8) : (unvE l).1.f2.size ≤ 255 := by
  unfold unvE
  split
  · unfold getE
    split
    · exact Nat.zero_le _
    · simp only [B_size]; exact strE_len _ _ _
  · exact Nat.zero_le _
end Go.Proofs.YtobjnhkjahhfnaaDoor.XE
