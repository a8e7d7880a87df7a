/- Keys there and back: what is written is read again, and what is read is what is written. Plain laws over the printed functions. No conditions. -/
import Derived.Test.YtekaeddagaejiaaDoorXPureKeysRead
namespace Go.Proofs.YtekaeddagaejiaaDoor.XK
open Go.RowKit Go.Proofs.YtekaeddagaejiaaDoor.XW Go.Proofs.YtekaeddagaejiaaDoor.XLib Go.Proofs.YtekaeddagaejiaaDoor.PAll Go.Proofs.YtekaeddagaejiaaDoor.XO Go.Proofs.YtekaeddagaejiaaDoorW.PrintWords Go.Proofs.YtekaeddagaejiaaDoorW.PrintLast
theorem textS_esc (t : List UInt8) : ∀ (rest acc : List UInt8), textS false (esc t ++ 0 :: 1 :: rest) acc = (acc ++ t, rest, 0) := by
  induction t with
  | nil => intro rest acc; simp [esc, textS]
  | cons x r ih =>
    intro rest acc
    by_cases h : x = 0
    · subst h
      simp only [esc, if_pos, List.cons_append, textS]
      rw [if_neg (by decide), ih]; simp
    · simp only [esc, if_neg h, List.cons_append, textS]
      rw [ih]; simp
theorem textS_inv : ∀ (l : List UInt8) (b : Bool) (acc t rest : List UInt8), textS b l acc = (t, rest, 0) → ∃ t', t = acc ++ t' ∧ (if b then 0 :: l else l) = esc t' ++ 0 :: 1 :: rest := by
  intro l
  induction l with
  | nil => intro b acc t rest h; cases b <;> simp [textS] at h
  | cons c r ih =>
    intro b acc t rest h
    cases b with
    | false =>
      simp only [textS] at h
      by_cases h0 : c = 0
      · rw [if_pos h0] at h
        obtain ⟨t', h1, h2⟩ := ih true acc t rest h
        exact ⟨t', h1, by subst h0; exact h2⟩
      · rw [if_neg h0] at h
        obtain ⟨t', h1, h2⟩ := ih false (acc ++ [c]) t rest h
        refine ⟨c :: t', by rw [h1]; simp, ?_⟩
        show c :: r = _
        simp only [esc, if_neg h0, List.cons_append]
        exact congrArg (c :: ·) h2
    | true =>
      simp only [textS] at h
      by_cases h1 : c = 1
      · rw [if_pos h1] at h
        simp only [Prod.mk.injEq] at h
        obtain ⟨rfl, rfl, _⟩ := h
        exact ⟨[], by simp, by subst h1; rfl⟩
      · rw [if_neg h1] at h
        by_cases h2 : c = 255
        · rw [if_pos h2] at h
          obtain ⟨t', h3, h4⟩ := ih false (acc ++ [0]) t rest h
          refine ⟨0 :: t', by rw [h3]; simp, ?_⟩
          subst h2
          show (0 : UInt8) :: 255 :: r = _
          simp only [esc, if_pos, List.cons_append]
          exact congrArg (fun z => (0 : UInt8) :: 255 :: z) h4
        · rw [if_neg h2] at h
          simp at h
theorem beNum8 (a b c d e f g h : UInt8) : beNum [a, b, c, d, e, f, g, h] = (a.toNat : Int) * 72057594037927936 + b.toNat * 281474976710656 + c.toNat * 1099511627776 + d.toNat * 4294967296 + e.toNat * 16777216 + f.toNat * 65536 + g.toNat * 256 + h.toNat := by
  have ha := a.toNat_lt
  have hb := b.toNat_lt
  have hc := c.toNat_lt
  have hd := d.toNat_lt
  have he := e.toNat_lt
  have hf := f.toNat_lt
  have hg := g.toNat_lt
  have hh := h.toNat_lt
  have s : ∀ (n : Int) (c : UInt8), 0 ≤ n → n < 72057594037927936 → beStep n c = n * 256 + c.toNat := by
    intro n c h1 h2
    have := c.toNat_lt
    unfold beStep; omega
  simp only [beNum, List.foldl_cons, List.foldl_nil]
  rw [s 0 a (by omega) (by omega), s _ b (by omega) (by omega), s _ c (by omega) (by omega), s _ d (by omega) (by omega), s _ e (by omega) (by omega), s _ f (by omega) (by omega), s _ g (by omega) (by omega), s _ h (by omega) (by omega)]
  omega
theorem shr_eqs (n : Int) : shr .u64 n 56 = n / 72057594037927936 ∧ shr .u64 n 48 = n / 281474976710656 ∧ shr .u64 n 40 = n / 1099511627776 ∧ shr .u64 n 32 = n / 4294967296 ∧ shr .u64 n 24 = n / 16777216 ∧ shr .u64 n 16 = n / 65536 ∧ shr .u64 n 8 = n / 256 ∧ shr .u64 n 0 = n / 1 := ⟨rfl, rfl, rfl, rfl, rfl, rfl, rfl, rfl⟩
theorem beNum_be8 (n : Int) (h0 : 0 ≤ n) (h1 : n < 18446744073709551616) : beNum (be8 n) = n := by
  obtain ⟨e7, e6, e5, e4, e3, e2, e1, e0⟩ := shr_eqs n
  unfold be8
  simp only [List.map_cons, List.map_nil]
  rw [beNum8]
  simp only [byte_back]
  rw [e7, e6, e5, e4, e3, e2, e1, e0]
  omega
theorem byte_of (x : Int) (c : UInt8) (h : x % 256 = c.toNat) : UInt8.ofNat (x % 256).toNat = c := by
  apply UInt8.toNat_inj.1
  have := byte_back x
  omega
theorem be8_beNum (l : List UInt8) (h : l.length = 8) : be8 (beNum l) = l := by
  match l, h with
  | [a, b, c, d, e, f, g, i], _ =>
    have ha := a.toNat_lt
    have hb := b.toNat_lt
    have hc := c.toNat_lt
    have hd := d.toNat_lt
    have he := e.toNat_lt
    have hf := f.toNat_lt
    have hg := g.toNat_lt
    have hh := i.toNat_lt
    rw [beNum8]
    obtain ⟨n, hn⟩ : ∃ n : Int, (a.toNat : Int) * 72057594037927936 + b.toNat * 281474976710656 + c.toNat * 1099511627776 + d.toNat * 4294967296 + e.toNat * 16777216 + f.toNat * 65536 + g.toNat * 256 + i.toNat = n := ⟨_, rfl⟩
    rw [hn]
    obtain ⟨e7, e6, e5, e4, e3, e2, e1, e0⟩ := shr_eqs n
    unfold be8
    simp only [List.map_cons, List.map_nil]
    rw [e7, e6, e5, e4, e3, e2, e1, e0]
    rw [byte_of _ a (by omega), byte_of _ b (by omega), byte_of _ c (by omega), byte_of _ d (by omega), byte_of _ e (by omega), byte_of _ f (by omega), byte_of _ g (by omega), byte_of _ i (by omega)]
theorem be8_len (n : Int) : (be8 n).length = 8 := by simp [be8]
theorem wrap_back (n : Int) (h : -9223372036854775808 ≤ n ∧ n < 9223372036854775808) : wrap64 (IntKind.u64.wrap ((n + 9223372036854775808) % 18446744073709551616 - 9223372036854775808)) = n := by
  rw [wrapu]; unfold wrap64; omega
theorem empty_of (s : ByteArray) (h : s.toList = []) : s = ⟨#[]⟩ := ba_ext (by rw [← Lib.toList_data, h])
theorem odd1 (n : Int) : oddV ⟨1, n, ⟨#[]⟩⟩ = false := by unfold oddV; rw [if_pos rfl, Lib.toList_data]; rfl
theorem odd2 (s : ByteArray) : oddV ⟨2, 0, s⟩ = false := by unfold oddV; rw [if_neg (show ¬ ((2 : Int) = 1) by decide), if_pos rfl]; rfl
theorem enc1 (n : Int) : encV ⟨1, n, ⟨#[]⟩⟩ = 1 :: be8 ((n + 9223372036854775808) % 18446744073709551616) := by
  unfold encV; rw [if_pos rfl, turned]
theorem enc2 (s : ByteArray) : encV ⟨2, 0, s⟩ = 2 :: (esc s.data.toList ++ [0, 1]) := by
  unfold encV; rw [if_neg (show ¬ ((2 : Int) = 1) by decide)]
theorem inV_mk {x n : Int} {s : ByteArray} (h1 : -9223372036854775808 ≤ x ∧ x < 9223372036854775808) (h2 : -9223372036854775808 ≤ n ∧ n < 9223372036854775808) : inV ⟨x, n, s⟩ := ⟨h1, h2⟩
theorem rdS_enc (v : S29) (ho : oddV v = false) (hi : inV v) (rest : List UInt8) (k : Nat) (acc : List S29) : rdS (k + 1) (encV v ++ rest) acc = rdS k rest (acc ++ [v]) := by
  obtain ⟨x, n, s⟩ := v
  obtain ⟨_, hn⟩ := hi
  unfold oddV at ho
  simp only at ho hn
  by_cases h1 : x = 1
  · rw [if_pos h1] at ho
    have hs : s = ⟨#[]⟩ := empty_of s (by simpa using ho)
    subst h1 hs
    rw [enc1, List.cons_append]
    simp only [rdS]
    have hl := be8_len ((n + 9223372036854775808) % 18446744073709551616)
    rw [if_pos trivial, if_neg (by rw [List.length_append, hl]; omega)]
    rw [List.take_append_of_le_length (by omega), List.take_of_length_le (by omega), List.drop_append_of_le_length (by omega), List.drop_of_length_le (by omega), List.nil_append]
    rw [beNum_be8 _ (by omega) (by omega), wrap_back n hn]
  · rw [if_neg h1] at ho
    by_cases h2 : x = 2
    · rw [if_pos h2] at ho
      have hn0 : n = 0 := by simpa using ho
      subst h2 hn0
      rw [enc2, List.cons_append]
      simp only [rdS]
      rw [if_neg (by decide), if_pos trivial, List.append_assoc, show ([0, 1] : List UInt8) ++ rest = 0 :: 1 :: rest from rfl, textS_esc]
      simp only [List.nil_append]
      rw [if_pos trivial]
    · rw [if_neg h2] at ho; cases ho
theorem rdS_encL : ∀ (l : List S29) (k : Nat) (acc : List S29), l.any oddV = false → (∀ v ∈ l, inV v) → l.length ≤ k → rdS k (encL l) acc = (acc ++ l, 0) := by
  intro l
  induction l with
  | nil => intro k acc _ _ _; cases k <;> simp [encL, rdS]
  | cons v r ih =>
    intro k acc ho hi hk
    rw [List.any_cons, Bool.or_eq_false_iff] at ho
    rw [List.length_cons] at hk
    obtain ⟨k, rfl⟩ : ∃ j, k = j + 1 := ⟨k - 1, by omega⟩
    rw [encL_cons, rdS_enc v ho.1 (hi v (List.mem_cons_self ..)), ih k _ ho.2 (fun u hu => hi u (List.mem_cons_of_mem _ hu)) (by omega)]
    simp
theorem encL_len2 (l : List S29) : l.length ≤ (encL l).length := by
  induction l with
  | nil => simp
  | cons v r ih =>
    have : 1 ≤ (encV v).length := by unfold encV; split <;> simp
    rw [encL_cons, List.length_append, List.length_cons]; omega
/-- what is written is read again -/
theorem read_write (l : List S29) (ho : l.any oddV = false) (hi : ∀ v ∈ l, inV v) : readL ⟨(encL l).toArray⟩ = (l, 0) := by
  unfold readL
  have := ba_len (encL l)
  have h2 := encL_len2 l
  exact (rdS_encL l _ [] ho hi (by omega)).trans (by simp)
theorem rdS_inv : ∀ (k : Nat) (l : List UInt8) (acc b : List S29), l.length ≤ k → rdS k l acc = (b, 0) → ∃ b', b = acc ++ b' ∧ encL b' = l ∧ b'.any oddV = false ∧ (∀ v ∈ b', inV v) := by
  intro k
  induction k with
  | zero =>
    intro l acc b hl h
    obtain rfl : l = [] := List.eq_nil_of_length_eq_zero (by omega)
    simp only [rdS, Prod.mk.injEq] at h
    exact ⟨[], by simp [h.1], rfl, rfl, fun v hv => (List.not_mem_nil hv).elim⟩
  | succ k ih =>
    intro l acc b hl h
    cases l with
    | nil =>
      simp only [rdS, Prod.mk.injEq] at h
      exact ⟨[], by simp [h.1], rfl, rfl, fun v hv => (List.not_mem_nil hv).elim⟩
    | cons x r =>
      rw [List.length_cons] at hl
      simp only [rdS] at h
      by_cases h1 : x = 1
      · rw [if_pos h1] at h
        by_cases h8 : r.length < 8
        · rw [if_pos h8] at h; simp at h
        · rw [if_neg h8] at h
          obtain ⟨b', e1, e2, e3, e4⟩ := ih _ _ b (by rw [List.length_drop]; omega) h
          have hb := beNum_bd (r.take 8)
          refine ⟨⟨1, wrap64 (IntKind.u64.wrap (beNum (r.take 8) - 9223372036854775808)), ⟨#[]⟩⟩ :: b', by rw [e1]; simp, ?_, ?_, ?_⟩
          · rw [encL_cons, e2]
            rw [enc1]
            have : (wrap64 (IntKind.u64.wrap (beNum (r.take 8) - 9223372036854775808)) + 9223372036854775808) % 18446744073709551616 = beNum (r.take 8) := by
              rw [wrapu]; unfold wrap64; omega
            rw [this, be8_beNum _ (by rw [List.length_take]; omega), List.cons_append, List.take_append_drop, h1]
          · rw [List.any_cons, e3, odd1]; rfl
          · intro v hv
            rcases List.mem_cons.1 hv with rfl | hv
            · refine inV_mk ⟨by decide, by decide⟩ ?_
              unfold wrap64; omega
            · exact e4 v hv
      · rw [if_neg h1] at h
        by_cases h2 : x = 2
        · rw [if_pos h2] at h
          by_cases he : (textS false r []).2.2 = 0
          · rw [if_pos he] at h
            have hr := textS_rest r false []
            obtain ⟨b', e1, e2, e3, e4⟩ := ih _ _ b (by omega) h
            obtain ⟨t', q1, q2⟩ := textS_inv r false [] (textS false r []).1 (textS false r []).2.1 (by rw [← he])
            refine ⟨⟨2, 0, ⟨(textS false r []).1.toArray⟩⟩ :: b', by rw [e1]; simp, ?_, ?_, ?_⟩
            · rw [encL_cons, e2]
              rw [enc2]
              simp only [List.nil_append] at q1
              have q3 : r = esc (textS false r []).1 ++ 0 :: 1 :: (textS false r []).2.1 := by rw [q1]; exact q2
              rw [h2, List.cons_append, List.append_assoc]
              exact congrArg ((2 : UInt8) :: ·) q3.symm
            · rw [List.any_cons, e3, odd2]; rfl
            · intro v hv
              rcases List.mem_cons.1 hv with rfl | hv
              · exact inV_mk ⟨by decide, by decide⟩ ⟨by decide, by decide⟩
              · exact e4 v hv
          · rw [if_neg he] at h
            simp only [Prod.mk.injEq] at h
            exact absurd h.2 he
        · rw [if_neg h2] at h; simp at h
/-- what is read is just what is written -/
theorem write_read (s : ByteArray) (b : List S29) (h : readL s = (b, 0)) : encL b = s.data.toList ∧ b.any oddV = false ∧ (∀ v ∈ b, inV v) := by
  obtain ⟨b', e1, e2, e3, e4⟩ := rdS_inv _ _ _ _ (by rw [← Lib.size_eq]; exact Nat.le_refl _) h
  simp only [List.nil_append] at e1
  subst e1
  exact ⟨e2, e3, e4⟩
theorem bulk_enc (l : List S29) (ho : l.any oddV = false) : bulkV l ≤ 2 * (encL l).length := by
  induction l with
  | nil => simp [bulkV]
  | cons v r ih =>
    rw [List.any_cons, Bool.or_eq_false_iff] at ho
    have h2 := ih ho.2
    have h3 : v.f2.size + 4 ≤ 2 * (encV v).length := by
      have hs := Lib.size_eq v.f2
      unfold oddV at ho
      unfold encV
      by_cases h1 : v.f0 = 1
      · rw [if_pos h1] at ho
        have := empty_of v.f2 (by simpa using ho.1)
        rw [if_pos h1, this]; simp [be8_len]
        show (⟨#[]⟩ : ByteArray).size ≤ 14
        decide
      · rw [if_neg h1]; simp [esc_length]; omega
    rw [bulk_cons, encL_cons, List.length_append]; omega
end Go.Proofs.YtekaeddagaejiaaDoor.XK
