/- Programs, written, read again, put together, held against one another. Plain laws over the printed functions. No conditions. -/
import Derived.Test.YtljfichnlgfikaaDoorXCodeB
import Derived.Test.YtljfichnlgfikaaDoorXA
namespace Go.Proofs.YtljfichnlgfikaaDoor.XC
open Go.RowKit Go.Proofs.YtljfichnlgfikaaDoor.XW Go.Proofs.YtljfichnlgfikaaDoor.XLib Go.Proofs.YtljfichnlgfikaaDoor.PAll Go.Proofs.YtljfichnlgfikaaDoorW.PrintWords Go.Proofs.YtljfichnlgfikaaDoorW.PrintLast Go.Proofs.YtljfichnlgfikaaDoor.XP Go.Proofs.YtljfichnlgfikaaDoor.XV Go.Proofs.YtljfichnlgfikaaDoor.XI
theorem rdi (l : List In) (i : Nat) (h : i < l.length) : rd_T42 l (i : Int) = l[i] := by
  unfold rd_T42; rw [Int.toNat_natCast, List.getD_eq_getElem?_getD, List.getElem?_eq_getElem h]; rfl
def encP : List In → List UInt8
  | [] => []
  | x :: l => encI x ++ encP l
theorem encP_app (a b : List In) : encP (a ++ b) = encP a ++ encP b := by
  induction a with
  | nil => rfl
  | cons x a ih => show encI x ++ encP (a ++ b) = encI x ++ encP a ++ encP b; rw [ih, List.append_assoc]
theorem encP_len (l : List In) : (encP l).length ≤ 300 * l.length := by
  induction l with
  | nil => exact Nat.le_refl _
  | cons x l ih => have := encI_len x; show (encI x ++ encP l).length ≤ _; rw [List.length_append, List.length_cons]; omega
theorem encP_nil {l : List In} (h : l ≠ []) : encP l ≠ [] := by
  cases l with
  | nil => exact absurd rfl h
  | cons x l => show encI x ++ encP l ≠ []; unfold encI; simp
/-! ## written -/
def writeL (l : List In) : ByteArray × Int := if l.length > 64 then (⟨#[]⟩, 3) else if l.all instOK = true then (B (encP l), 0) else (⟨#[]⟩, 4)
theorem p_writeL (l : List In) (hl : l.length ≤ 64) (hf : ∀ x ∈ l, Fit x) : ∀ (m i k : Nat) (pre : List UInt8), i + m = l.length → pre.length + 300 * m < 900000 → code_Write.l0 (k + m + 20) (bi pre) l (l.length : Int) (i : Int) = some (if (l.drop i).all instOK = true then (B (pre ++ encP (l.drop i)), 0) else (⟨#[]⟩, 4)) := by
  intro m
  induction m with
  | zero =>
    intro i k pre hi hp
    rw [show k + 0 + 20 = (k + 19) + 1 from rfl]
    generalize hK : k + 19 = K
    simp only [code_Write.l0]
    rw [if_neg (by omega), List.drop_eq_nil_of_le (by omega), strB, if_pos (by rfl)]
    show some (B pre, (0 : Int)) = some (B (pre ++ []), 0)
    rw [List.append_nil]
  | succ m ih =>
    intro i k pre hi hp
    have hlt : i < l.length := by omega
    have hx := encI_len l[i]
    rw [show k + (m + 1) + 20 = (k + m + 20) + 1 by omega]
    generalize hK : k + m + 20 = K
    simp only [code_Write.l0]
    subst hK
    rw [if_pos (by omega), if_pos (by omega), if_pos (by omega), rdi l i hlt, p_right l[i] (hf _ (List.getElem_mem hlt)) (by omega), Option.bind_some, List.drop_eq_getElem_cons hlt, List.all_cons]
    cases hb : instOK l[i] with
    | false => rfl
    | true =>
      rw [if_pos rfl, show k + m + 20 = (k + m + 7) + 13 by omega, p_put l[i] (k + m + 7) pre (by omega), Option.bind_some, nexti i (by omega), show k + m + 7 + 13 = k + m + 20 by omega, ih (i + 1) k _ (by omega) (by rw [List.length_append]; omega), Bool.true_and, List.append_assoc]
      rfl
theorem p_write (l : List In) (hf : ∀ x ∈ l, Fit x) {k : Nat} (hk : 100 ≤ k) : code_Write.f k l = some (writeL l) := by
  unfold code_Write.f writeL
  by_cases h : l.length > 64
  · rw [if_pos (show (l.length : Int) > 64 by omega), if_pos h]
  · rw [if_neg (show ¬ (l.length : Int) > 64 by omega), if_neg h]
    have := p_writeL l (by omega) hf l.length 0 (k - l.length - 20) [] (by omega) (by simp; omega)
    rw [show k - l.length - 20 + l.length + 20 = k by omega] at this
    exact this
theorem wu (n : Int) : 0 ≤ IntKind.u64.wrap n ∧ IntKind.u64.wrap n < 18446744073709551616 := by rw [wrapu]; omega
theorem num1 (k : Nat) (v : Int) : factotumref01_Num.f (k + 9) (IntKind.u64.wrap v) 1 = some (B [b8 v]) := by
  have := rnumw k (IntKind.u64.wrap v) 1 (by omega) (wu v).1 (wu v).2
  have e : beN 1 (IntKind.u64.wrap v) = [b8 v] := by
    show [] ++ [UInt8.ofNat (IntKind.u64.wrap v % 256).toNat] = _
    rw [wrapu, show v % 18446744073709551616 % 256 = v % 256 by omega]; rfl
  rw [e] at this
  exact this
theorem one_go (x : In) (hv : vOK x = true) (y : List Int) (n : Nat) (hy : n ≤ y.length) (h3 : n ≤ 3) : ∀ (m i k : Nat) (pre : List UInt8), i + m = n → pre.length + m < 1000000 → factotumref13_one.l0 (k + m + 12) (n : Int) (B pre) y (i : Int) x.f0 x.f1 x.f2 x.f3 x.f4.f0 x.f4.f1 x.f4.f2 = some (B (pre ++ encA ((y.take n).drop i) ++ encC x)) := by
  intro m
  induction m with
  | zero =>
    intro i k pre hi hp
    rw [show k + 0 + 12 = (k + 2 + 9) + 1 from rfl, List.drop_eq_nil_of_le (by rw [List.length_take]; omega), show pre ++ encA [] = pre from List.append_nil _]
    generalize hK : k + 2 + 9 = K
    simp only [factotumref13_one.l0]
    subst hK
    rw [if_neg (by omega)]
    unfold encC
    by_cases h1 : x.f0 = 1
    · rw [if_pos h1, if_pos h1, num1, Option.bind_some, if_pos (by rw [B_size, B_size]; simp; omega)]
      unfold vOK at hv
      rw [if_pos h1] at hv
      rcases ok_cases x.f4 hv with ⟨h2, h3⟩ | ⟨h2, h3, h4⟩
      · rw [if_pos h2, if_pos h2, h2, show factotumref01_Num.f _ (IntKind.u64.wrap x.f4.f1) 8 = _ from rnumw (k + 2) _ 8 (by omega) (wu _).1 (wu _).2, Option.bind_some, B_app, if_pos (by rw [B_size, B_size, beN_len]; simp; omega), B_app, List.append_assoc]; rfl
      · have hs : x.f4.f2.data.toList.length = x.f4.f2.size := (Lib.size_eq _).symm
        rw [if_neg (by omega), if_neg (show ¬ x.f4.f0 = 1 by omega), h2]
        conv => lhs; rw [of_B x.f4.f2]
        rw [rstrw (k + 2) _ (by omega), Option.bind_some, B_app, if_pos (by rw [B_size, B_size]; simp; omega), B_app, List.append_assoc]; rfl
    · rw [if_neg h1, if_neg h1, List.append_nil]
  | succ m ih =>
    intro i k pre hi hp
    have hlt : i < y.length := by omega
    have hr : rd y (i : Int) = y[i] := by unfold rd; rw [Int.toNat_natCast, List.getD_eq_getElem?_getD, List.getElem?_eq_getElem hlt]; rfl
    have hlt2 : i < (y.take n).length := by rw [List.length_take]; omega
    rw [show k + (m + 1) + 12 = (k + m + 3 + 9) + 1 by omega]
    generalize hK : k + m + 3 + 9 = K
    simp only [factotumref13_one.l0]
    subst hK
    rw [if_pos (by omega), if_pos (by omega), if_pos (by omega), hr, num1, Option.bind_some, if_pos (by rw [B_size, B_size]; simp; omega), nexti i (by omega), B_app, show k + m + 3 + 9 = k + m + 12 by omega, ih (i + 1) k _ (by omega) (by simp; omega), List.drop_eq_getElem_cons hlt2, List.getElem_take, encA_cons]
    simp
theorem r_one (x : In) (hv : vOK x = true) (k : Nat) : factotumref13_one.f (k + 20) x.f0 x.f1 x.f2 x.f3 x.f4.f0 x.f4.f1 x.f4.f2 = some (B (encI x)) := by
  unfold factotumref13_one.f
  obtain ⟨n0, n3⟩ := opN_le x.f0
  rw [r_ops _ (by omega), Option.bind_some, show k + 20 = (k + 11) + 9 by omega, num1, Option.bind_some]
  simp only
  have key := one_go x hv [x.f1, x.f2, x.f3] (opN x.f0).toNat (by show _ ≤ 3; omega) (by omega) (opN x.f0).toNat 0 (k + 8 - (opN x.f0).toNat) [b8 x.f0] (by omega) (by simp; omega)
  rw [show k + 8 - (opN x.f0).toNat + (opN x.f0).toNat + 12 = k + 11 + 9 by omega, Int.toNat_of_nonneg n0, List.drop_zero] at key
  refine key.trans ?_
  unfold encI
  rw [List.append_assoc]; rfl
theorem ok_v (x : In) (h : instOK x = true) : vOK x = true := (ok_op x h).2.2
theorem r_writeL (l : List In) (hl : l.length ≤ 64) : ∀ (m i k : Nat) (pre : List UInt8), i + m = l.length → pre.length + 300 * m < 900000 → factotumref13_Write.l0 (k + m + 30) l (B pre) (i : Int) = some (if (l.drop i).all instOK = true then (B (pre ++ encP (l.drop i)), 0) else (⟨#[]⟩, 4)) := by
  intro m
  induction m with
  | zero =>
    intro i k pre hi hp
    rw [show k + 0 + 30 = (k + 29) + 1 from rfl]
    generalize hK : k + 29 = K
    simp only [factotumref13_Write.l0]
    rw [if_neg (by omega), List.drop_eq_nil_of_le (by omega), if_pos (by rfl)]
    show some (B pre, (0 : Int)) = some (B (pre ++ []), 0)
    rw [List.append_nil]
  | succ m ih =>
    intro i k pre hi hp
    have hlt : i < l.length := by omega
    have hx := encI_len l[i]
    rw [show k + (m + 1) + 30 = (k + m + 30) + 1 by omega]
    generalize hK : k + m + 30 = K
    simp only [factotumref13_Write.l0]
    subst hK
    rw [if_pos (by omega), if_pos (by omega), rdi l i hlt, r_right l[i] (by omega), Option.bind_some, List.drop_eq_getElem_cons hlt, List.all_cons]
    cases hb : instOK l[i] with
    | false => rfl
    | true =>
      rw [if_pos rfl, show k + m + 30 = (k + m + 10) + 20 by omega, r_one l[i] (ok_v _ hb), Option.bind_some, if_pos (by rw [B_size, B_size]; omega), nexti i (by omega), show k + m + 10 + 20 = k + m + 30 by omega, B_app, ih (i + 1) k _ (by omega) (by rw [List.length_append]; omega), Bool.true_and, List.append_assoc]
      rfl
theorem r_write (l : List In) {k : Nat} (hk : 100 ≤ k) : factotumref13_Write.f k l = some (writeL l) := by
  unfold factotumref13_Write.f writeL
  by_cases h : l.length > 64
  · rw [if_pos (show (l.length : Int) > 64 by omega), if_pos h]
  · rw [if_neg (show ¬ (l.length : Int) > 64 by omega), if_neg h]
    have := r_writeL l (by omega) l.length 0 (k - l.length - 30) [] (by omega) (by simp; omega)
    rw [show k - l.length - 30 + l.length + 30 = k by omega] at this
    exact this
/-! ## read again -/
def okL (l : List In) : Prop := (∀ x ∈ l, instOK x = true) ∧ ∀ x ∈ l, i64 x.f4.f1
theorem okL.tail {x : In} {l : List In} (h : okL (x :: l)) : okL l := ⟨fun y hy => h.1 y (List.mem_cons_of_mem _ hy), fun y hy => h.2 y (List.mem_cons_of_mem _ hy)⟩
theorem encI_ne (x : In) (r : List UInt8) : encI x ++ r ≠ [] := by unfold encI; simp
theorem readL_enc : ∀ (a : List In) (m : Nat) (r : List UInt8) (xs : List In), okL a → xs.length + a.length ≤ 64 → readL (m + a.length) (encP a ++ r) xs = readL m r (xs ++ a) := by
  intro a
  induction a with
  | nil => intro m r xs _ _; rw [List.append_nil]; rfl
  | cons x a ih =>
    intro m r xs h hl
    rw [List.length_cons] at hl
    have e := inst_enc x (encP a ++ r) (h.1 x List.mem_cons_self) (h.2 x List.mem_cons_self)
    rw [show m + (x :: a).length = (m + a.length) + 1 by rw [List.length_cons]; omega]
    show readL _ (encI x ++ encP a ++ r) xs = _
    rw [List.append_assoc]
    simp only [readL]
    rw [if_neg (encI_ne x _), if_neg (by omega), e, if_pos (by rfl)]
    simp only
    rw [ih m r (xs ++ [x]) h.tail (by simp; omega), List.append_assoc]; rfl
theorem read_enc (a : List In) (h : okL a) (hl : a.length ≤ 64) : readL 65 (encP a) [] = (a, 0) := by
  have := readL_enc a (64 - a.length + 1) [] [] h (by simpa using hl)
  rw [show 64 - a.length + 1 + a.length = 65 by omega, List.append_nil, List.nil_append] at this
  rw [this]
  simp only [readL]
  rw [if_pos trivial]
theorem readL_dec : ∀ (m : Nat) (l : List UInt8) (xs b : List In), xs.length ≤ 64 → 65 ≤ xs.length + m → readL m l xs = (b, 0) → ∃ a, b = xs ++ a ∧ okL a ∧ l = encP a ∧ b.length ≤ 64 := by
  intro m
  induction m with
  | zero => intro l xs b h1 h2; omega
  | succ m ih =>
    intro l xs b h1 h2 h
    simp only [readL] at h
    by_cases hl : l = []
    · rw [if_pos hl] at h
      injection h with h _
      exact ⟨[], by rw [List.append_nil]; exact h.symm, ⟨(fun x hx => by cases hx), (fun x hx => by cases hx)⟩, hl, by rw [← h]; exact h1⟩
    · rw [if_neg hl] at h
      by_cases h64 : xs.length = 64
      · rw [if_pos h64] at h; injection h with _ h; cases h
      · rw [if_neg h64] at h
        by_cases he : errI (instE l 0) = 0
        · rw [if_pos he] at h
          obtain ⟨d1, d2, d3⟩ := inst_dec l hl he
          obtain ⟨a, e1, ⟨o1, o2⟩, e2, e3⟩ := ih (instE l 0).2.1 (xs ++ [(instE l 0).1]) b (by simp; omega) (by simp; omega) h
          refine ⟨(instE l 0).1 :: a, by rw [e1, List.append_assoc]; rfl, ⟨fun x hx => ?_, fun x hx => ?_⟩, ?_, e3⟩
          · rcases List.mem_cons.1 hx with rfl | hx
            · exact d1
            · exact o1 x hx
          · rcases List.mem_cons.1 hx with rfl | hx
            · exact d3
            · exact o2 x hx
          · show l = encI _ ++ encP a
            rw [← e2]; exact d2
        · rw [if_neg he] at h; injection h with _ h; exact absurd h he
theorem read_dec (l : List UInt8) (b : List In) (h : readL 65 l [] = (b, 0)) : okL b ∧ l = encP b ∧ b.length ≤ 64 := by
  obtain ⟨a, e1, e2, e3, e4⟩ := readL_dec 65 l [] b (by simp) (by simp) h
  rw [List.nil_append] at e1
  subst e1
  exact ⟨e2, e3, e4⟩
theorem fit_of (x : In) (h : instOK x = true) : Fit x := by
  obtain ⟨_, ⟨ha, hb, hc⟩, hv⟩ := ok_op x h
  have a := arg_in ha; have b := arg_in hb; have c := arg_in hc
  refine ⟨by unfold i64; omega, by unfold i64; omega, by unfold i64; omega, ?_⟩
  unfold vOK at hv
  by_cases h1 : x.f0 = 1
  · rw [if_pos h1] at hv
    rcases ok_cases _ hv with ⟨_, h2⟩ | ⟨_, _, h2⟩
    · rw [h2]; exact Nat.zero_le _
    · unfold SZ; omega
  · rw [if_neg h1] at hv
    rw [zero_eq _ hv]; exact Nat.zero_le _
theorem write_of (b : List In) (h : okL b) (hl : b.length ≤ 64) : writeL b = (B (encP b), 0) := by
  unfold writeL
  rw [if_neg (by omega), if_pos (List.all_eq_true.2 h.1)]
theorem write_ok (l : List In) (h : (writeL l).2 = 0) : l.length ≤ 64 ∧ (∀ x ∈ l, instOK x = true) ∧ (writeL l).1 = B (encP l) := by
  unfold writeL at h ⊢
  by_cases h1 : l.length > 64
  · rw [if_pos h1] at h; cases h
  · rw [if_neg h1] at h ⊢
    by_cases h2 : l.all instOK = true
    · rw [if_pos h2]; exact ⟨by omega, List.all_eq_true.1 h2, rfl⟩
    · rw [if_neg h2] at h; cases h
/-! ## put together, and heads -/
theorem read_long (a b : List In) (ha : okL a) (hb : okL b) (h1 : a.length ≤ 64) (h : a.length + b.length > 64) : readL 65 (encP a ++ encP b) [] = ([], 3) := by
  have e := readL_enc a (64 - a.length + 1) (encP b) [] ha (by simpa using h1)
  rw [show 64 - a.length + 1 + a.length = 65 by omega, List.nil_append] at e
  have hc : encP b = encP (b.take (64 - a.length)) ++ encP (b.drop (64 - a.length)) := by rw [← encP_app, List.take_append_drop]
  have hl : (b.take (64 - a.length)).length = 64 - a.length := by rw [List.length_take]; omega
  have e2 := readL_enc (b.take (64 - a.length)) 1 (encP (b.drop (64 - a.length))) a ⟨fun x hx => hb.1 x (List.mem_of_mem_take hx), fun x hx => hb.2 x (List.mem_of_mem_take hx)⟩ (by rw [hl]; omega)
  rw [hl, Nat.add_comm 1, ← hc] at e2
  rw [e, e2]
  simp only [readL]
  rw [if_neg (encP_nil (by intro hx; have := congrArg List.length hx; rw [List.length_drop] at this; simp at this; omega)), if_pos (by rw [List.length_append, hl]; omega)]
theorem head_enc : ∀ (a : List In) (p t : List UInt8), p ++ t = encP a → ∃ a1 a2, a = a1 ++ a2 ∧ (p = encP a1 ∨ ∃ x a3 p2 t2, a2 = x :: a3 ∧ p = encP a1 ++ p2 ∧ p2 ≠ [] ∧ t2 ≠ [] ∧ p2 ++ t2 = encI x) := by
  intro a
  induction a with
  | nil => intro p t h; exact ⟨[], [], rfl, .inl (List.append_eq_nil_iff.1 h).1⟩
  | cons x a ih =>
    intro p t h
    have h' : p ++ t = encI x ++ encP a := h
    by_cases hp : p = []
    · exact ⟨[], x :: a, rfl, .inl hp⟩
    · rcases List.append_eq_append_iff.1 h' with ⟨q, hq1, hq2⟩ | ⟨q, hq1, hq2⟩
      · by_cases hq : q = []
        · subst hq
          rw [List.append_nil] at hq1
          exact ⟨[x], a, rfl, .inl (by show p = encI x ++ []; rw [List.append_nil]; exact hq1.symm)⟩
        · exact ⟨[], x :: a, rfl, .inr ⟨x, a, p, q, rfl, rfl, hp, hq, hq1.symm⟩⟩
      · obtain ⟨a1, a2, e1, e2⟩ := ih q t hq2.symm
        refine ⟨x :: a1, a2, by rw [e1]; rfl, ?_⟩
        rcases e2 with e2 | ⟨y, a3, p2, t2, f1, f2, f3, f4, f5⟩
        · exact .inl (by rw [hq1, e2]; rfl)
        · exact .inr ⟨y, a3, p2, t2, f1, by rw [hq1, f2]; show encI x ++ (encP a1 ++ p2) = encI x ++ encP a1 ++ p2; rw [List.append_assoc], f3, f4, f5⟩
theorem read_head (a : List In) (ha : okL a) (hl : a.length ≤ 64) (p t : List UInt8) (h : p ++ t = encP a) : (∃ a1 a2, a = a1 ++ a2 ∧ readL 65 p [] = (a1, 0)) ∨ (t ≠ [] ∧ readL 65 p [] = ([], 2)) := by
  obtain ⟨a1, a2, e1, e2⟩ := head_enc a p t h
  have ha1 : okL a1 := ⟨fun x hx => ha.1 x (by rw [e1]; exact List.mem_append_left _ hx), fun x hx => ha.2 x (by rw [e1]; exact List.mem_append_left _ hx)⟩
  have hl1 : a1.length ≤ 64 := by rw [e1, List.length_append] at hl; omega
  rcases e2 with e2 | ⟨x, a3, p2, t2, f1, f2, f3, f4, f5⟩
  · exact .inl ⟨a1, a2, e1, by rw [e2]; exact read_enc a1 ha1 hl1⟩
  · right
    have hx : instOK x = true := ha.1 x (by rw [e1, f1]; simp)
    refine ⟨?_, ?_⟩
    · intro ht
      rw [ht, List.append_nil, f2, e1, encP_app, f1] at h
      have := List.append_cancel_left h
      have h3 : p2 = p2 ++ (t2 ++ encP a3) := by rw [← List.append_assoc, f5]; exact this
      have h4 := congrArg List.length h3
      rw [List.length_append, List.length_append] at h4
      exact f4 (List.eq_nil_of_length_eq_zero (by omega))
    · have hl2 : a1.length < 64 := by rw [e1, f1, List.length_append, List.length_cons] at hl; omega
      have e := readL_enc a1 (64 - a1.length + 1) p2 [] ha1 (by simpa using hl1)
      rw [show 64 - a1.length + 1 + a1.length = 65 by omega, List.nil_append] at e
      rw [f2, e]
      have hs := inst_short x p2 t2 hx f3 f4 f5
      simp only [readL]
      rw [if_neg f3, if_neg (by omega), hs, if_neg (by decide)]
/-! ## the same programs -/
def neI (x y : In) : Bool := !(x.f0 == y.f0) || (!(x.f1 == y.f1) || (!(x.f2 == y.f2) || (!(x.f3 == y.f3) || (!(x.f4.f0 == y.f4.f0) || (!(x.f4.f1 == y.f4.f1) || !(x.f4.f2.toList == y.f4.f2.toList))))))
theorem neI_refl (x : In) : neI x x = false := by unfold neI; simp
def eqI : List In → List In → Bool
  | [], [] => true
  | a :: x, b :: y => !neI a b && eqI x y
  | _, _ => false
theorem eqI_refl : ∀ l, eqI l l = true := by
  intro l
  induction l with
  | nil => rfl
  | cons a l ih => simp [eqI, neI_refl, ih]
theorem eqI_len : ∀ a b : List In, a.length ≠ b.length → eqI a b = false := by
  intro a
  induction a with
  | nil => intro b h; cases b with
    | nil => exact absurd rfl h
    | cons y b => rfl
  | cons x a ih =>
    intro b h
    cases b with
    | nil => rfl
    | cons y b => show (!neI x y && eqI a b) = false; rw [ih b (by simpa using h), Bool.and_false]
theorem p_same_go (a b : List In) (hl : a.length = b.length) (hb : a.length ≤ 1000000000) : ∀ m i k : Nat, i + m = a.length → api_Inst.l0 (k + m + 1) a b (a.length : Int) (i : Int) = some (eqI (a.drop i) (b.drop i)) := by
  intro m
  induction m with
  | zero =>
    intro i k hi
    simp only [api_Inst.l0]
    rw [if_neg (by omega), List.drop_eq_nil_of_le (by omega), List.drop_eq_nil_of_le (by omega)]; rfl
  | succ m ih =>
    intro i k hi
    have hlt : i < a.length := by omega
    have hlt2 : i < b.length := by omega
    rw [show k + (m + 1) + 1 = (k + m + 1) + 1 by omega]
    generalize hK : k + m + 1 = K
    simp only [api_Inst.l0]
    subst hK
    rw [if_pos (by omega), if_pos (by omega), if_pos (by omega), if_pos (by omega), rdi a i hlt, rdi b i hlt2, nexti i (by omega), ih (i + 1) k (by omega), List.drop_eq_getElem_cons hlt, List.drop_eq_getElem_cons hlt2]
    show (if neI a[i] b[i] = true then some false else _) = some (!neI a[i] b[i] && eqI (a.drop (i + 1)) (b.drop (i + 1)))
    cases neI a[i] b[i] <;> rfl
theorem p_same (a b : List In) (hb : a.length ≤ 1000000000) {k : Nat} (hk : a.length + 1 ≤ k) : code_Same.f k a b = some (eqI a b) := by
  unfold code_Same.f api_Inst.f
  by_cases h : a.length = b.length
  · have := p_same_go a b h hb a.length 0 (k - a.length - 1) (by omega)
    rw [show k - a.length - 1 + a.length + 1 = k by omega] at this
    rw [if_pos (by omega), show api_Inst.l0 k a b (a.length : Int) 0 = some (eqI a b) from this]; rfl
  · rw [if_neg (by omega), eqI_len a b h]; rfl
theorem r_same_go (a b : List In) (hl : a.length = b.length) (hb : a.length ≤ 1000000000) : ∀ m i k : Nat, i + m = a.length → factotumref13_Same.l0 (k + m + 1) a b (i : Int) = some (eqI (a.drop i) (b.drop i)) := by
  intro m
  induction m with
  | zero =>
    intro i k hi
    simp only [factotumref13_Same.l0]
    rw [if_neg (by omega), List.drop_eq_nil_of_le (by omega), List.drop_eq_nil_of_le (by omega)]; rfl
  | succ m ih =>
    intro i k hi
    have hlt : i < a.length := by omega
    have hlt2 : i < b.length := by omega
    rw [show k + (m + 1) + 1 = (k + m + 1) + 1 by omega]
    generalize hK : k + m + 1 = K
    simp only [factotumref13_Same.l0]
    subst hK
    rw [if_pos (by omega), if_pos (by omega), if_pos (by omega), rdi a i hlt, rdi b i hlt2, nexti i (by omega), ih (i + 1) k (by omega), List.drop_eq_getElem_cons hlt, List.drop_eq_getElem_cons hlt2]
    show (if neI a[i] b[i] = true then some false else _) = some (!neI a[i] b[i] && eqI (a.drop (i + 1)) (b.drop (i + 1)))
    cases neI a[i] b[i] <;> rfl
theorem r_same (a b : List In) (hb : a.length ≤ 1000000000) {k : Nat} (hk : a.length + 1 ≤ k) : factotumref13_Same.f k a b = some (eqI a b) := by
  unfold factotumref13_Same.f
  by_cases h : a.length = b.length
  · have := r_same_go a b h hb a.length 0 (k - a.length - 1) (by omega)
    rw [show k - a.length - 1 + a.length + 1 = k by omega] at this
    rw [if_pos (by omega)]; exact this
  · rw [if_neg (by omega), eqI_len a b h]
/-! ## what came in -/
theorem live13 {k : Nat} (hk : 200 ≤ k) : factotumlaw13_lives.f k = some true := by
  have h : factotumlaw13_lives.f 200 = some true := by
    have w0 : okL [(⟨1, 1, 0, 0, ⟨1, 5, ⟨#[]⟩⟩⟩ : In), ⟨17, 0, 0, 0, ⟨0, 0, ⟨#[]⟩⟩⟩] := by
      refine ⟨fun x hx => ?_, fun x hx => ?_⟩
      · simp only [List.mem_cons, List.not_mem_nil, or_false] at hx
        rcases hx with rfl | rfl
        · unfold instOK vOK
          rw [if_pos rfl, ok_num]; decide
        · unfold instOK vOK
          rw [if_neg (show ¬ ((17 : Int) = 1) by decide), show zeroV ⟨0, 0, ⟨#[]⟩⟩ = true from zero_z]; decide
      · simp only [List.mem_cons, List.not_mem_nil, or_false] at hx
        rcases hx with rfl | rfl <;> (unfold i64; simp only; omega)
    have e0 : encP [(⟨1, 1, 0, 0, ⟨1, 5, ⟨#[]⟩⟩⟩ : In), ⟨17, 0, 0, 0, ⟨0, 0, ⟨#[]⟩⟩⟩] = [1, 1, 1, 0, 0, 0, 0, 0, 0, 0, 5, 17] := by decide
    have hw := write_of _ w0 (by decide)
    have hr := read_enc _ w0 (by decide)
    rw [e0] at hw hr
    unfold factotumlaw13_lives.f
    rw [p_write _ (fun x hx => fit_of x (w0.1 x hx)) (by omega), hw, Option.bind_some, show (⟨#[1, 1, 1, 0, 0, 0, 0, 0, 0, 0, 5, 17]⟩ : ByteArray) = B [1, 1, 1, 0, 0, 0, 0, 0, 0, 0, 5, 17] from rfl, p_read _ _ (by omega), hr, Option.bind_some, if_pos (by rfl), if_pos (B_list _), if_pos (by rfl), if_pos (by rfl), if_pos (by decide), if_pos (by rfl), p_same _ _ (by decide) (by decide), eqI_refl]; rfl
  obtain ⟨j, rfl⟩ : ∃ j, k = j + 200 := ⟨k - 200, by omega⟩
  induction j with
  | zero => exact h
  | succ j ih => rw [show j + 1 + 200 = (j + 200) + 1 by omega]; exact factotumlaw13_lives.mono _ _ (ih (by omega))
theorem sz_of (l : List In) (hi : ∀ x ∈ l, XA.in42 x) (h : (l.map XA.wt42).sum ≤ 1048576) : (∀ x ∈ l, Fit x) ∧ (∀ x ∈ l, i64 x.f4.f1) ∧ l.length ≤ 1048576 := by
  have key : (∀ x ∈ l, x.f4.f2.size ≤ SZ) ∧ l.length ≤ (l.map XA.wt42).sum := by
    clear hi
    induction l with
    | nil => exact ⟨(fun x hx => by cases hx), Nat.le_refl _⟩
    | cons x l ih =>
      have e : XA.wt42 x = 1 + 1 + 1 + 1 + (1 + 1 + (x.f4.f2.size + 1) + 1) + 1 := rfl
      rw [List.map_cons, List.sum_cons, e] at h
      obtain ⟨h1, h2⟩ := ih (by omega)
      refine ⟨fun y hy => ?_, by rw [List.map_cons, List.sum_cons, List.length_cons, e]; omega⟩
      rcases List.mem_cons.1 hy with rfl | hy
      · unfold SZ; omega
      · exact h1 y hy
  refine ⟨fun x hx => ?_, fun x hx => ?_, by omega⟩
  · have hin := hi x hx
    exact ⟨hin.2.1, hin.2.2.1, hin.2.2.2.1, key.1 x hx⟩
  · have hin := hi x hx
    exact hin.2.2.2.2.2
end Go.Proofs.YtljfichnlgfikaaDoor.XC
