/- Instructions: how many operands, which may be, their bytes: what the program and the document's answer compute. Plain laws over the printed functions. No conditions. -/
import Derived.Test.YtljfichnlgfikaaDoorXVal
namespace Go.Proofs.YtljfichnlgfikaaDoor.XI
open Go.RowKit Go.Proofs.YtljfichnlgfikaaDoor.XW Go.Proofs.YtljfichnlgfikaaDoor.XLib Go.Proofs.YtljfichnlgfikaaDoor.PAll Go.Proofs.YtljfichnlgfikaaDoorW.PrintWords Go.Proofs.YtljfichnlgfikaaDoorW.PrintLast Go.Proofs.YtljfichnlgfikaaDoor.XP Go.Proofs.YtljfichnlgfikaaDoor.XV
abbrev In := S42
abbrev Vl := S40
def SZ : Nat := 1099511627776
def opOK (op : Int) : Bool := decide (0 < op ∧ op ≤ 19)
def opN (op : Int) : Int := if 0 < op ∧ op ≤ 19 then code_Operands.n op else 0
theorem p_ops (op : Int) : code_Operands.f op = some (opN op, opOK op) := by
  unfold code_Operands.f opN opOK
  by_cases h : 0 < op ∧ op ≤ 19
  · rw [if_pos h, if_pos h, decide_eq_true h]
  · rw [if_neg h, if_neg h, decide_eq_false h]
theorem opN_le (op : Int) : 0 ≤ opN op ∧ opN op ≤ 3 := by
  unfold opN code_Operands.n
  (repeat' split) <;> omega
theorem some_op {op : Int} (h : 0 < op ∧ op ≤ 19) : op = 1 ∨ op = 2 ∨ op = 3 ∨ op = 4 ∨ op = 5 ∨ op = 6 ∨ op = 7 ∨ op = 8 ∨ op = 9 ∨ op = 10 ∨ op = 11 ∨ op = 12 ∨ op = 13 ∨ op = 14 ∨ op = 15 ∨ op = 16 ∨ op = 17 ∨ op = 18 ∨ op = 19 := by omega
theorem r_ops (op : Int) {k : Nat} (hk : 2 ≤ k) : factotumref13_Operands.f k op = some (opN op, opOK op) := by
  obtain ⟨j, rfl⟩ : ∃ j, k = j + 1 + 1 := ⟨k - 2, by omega⟩
  by_cases h : 0 < op ∧ op ≤ 19
  · rcases some_op h with rfl | rfl | rfl | rfl | rfl | rfl | rfl | rfl | rfl | rfl | rfl | rfl | rfl | rfl | rfl | rfl | rfl | rfl | rfl <;> rfl
  · unfold opN opOK
    rw [if_neg h, decide_eq_false h]
    have e : ∀ c : Int, 0 < c ∧ c ≤ 19 → (op = c) = False := fun c hc => eq_false (fun x => h (x ▸ hc))
    have b : ∀ c : Int, 0 < c ∧ c ≤ 19 → (op == c) = false := fun c hc => beq_eq_false_iff_ne.mpr (fun x => h (x ▸ hc))
    simp only [factotumref13_Operands.f, factotumref13_Operands.j0, factotumref13_Operands.j1, e 17 (by decide), e 1 (by decide), e 9 (by decide), e 15 (by decide), e 14 (by decide), e 13 (by decide), e 18 (by decide), e 2 (by decide), e 10 (by decide), e 11 (by decide), e 3 (by decide), e 4 (by decide), e 5 (by decide), e 6 (by decide), e 7 (by decide), e 8 (by decide), e 16 (by decide), b 19 (by decide), b 12 (by decide), Bool.false_eq_true, if_false]
/-! ## which may be -/
def zeroV (v : Vl) : Bool := v.f0 == 0 && (v.f1 == 0 && (v.f2.toList == ([] : List UInt8)))
def argOK (n i x : Int) : Bool := decide (0 ≤ x ∧ x ≤ 255) && (decide (i < n) || decide (x = 0))
def argsOK (x : In) : Bool := argOK (opN x.f0) 0 x.f1 && (argOK (opN x.f0) 1 x.f2 && argOK (opN x.f0) 2 x.f3)
def vOK (x : In) : Bool := if x.f0 = 1 then valOK x.f4 else zeroV x.f4
def instOK (x : In) : Bool := opOK x.f0 && (argsOK x && vOK x)
def i64 (n : Int) : Prop := -9223372036854775808 ≤ n ∧ n < 9223372036854775808
/-- an instruction of numbers that a machine has -/
structure Fit (x : In) : Prop where
  a : i64 x.f1
  b : i64 x.f2
  c : i64 x.f3
  s : x.f4.f2.size ≤ SZ
theorem fits1 (x : Int) (h : 0 ≤ x) (h2 : x < 9223372036854775808) : pack_Fits.f (IntKind.u64.wrap x) 1 = some (decide (x ≤ 255)) := by
  have e : pack_wide.f 1 = some 1 := rfl
  unfold pack_Fits.f
  rw [e, Option.bind_some, show wrap64 ((wrap64 (8 * 1)) - 1) = 7 by unfold wrap64; omega, if_pos (by decide)]
  congr 1
  unfold shr
  rw [wrapu, show (min (7 : Int).toNat IntKind.u64.bits) = 7 from rfl, show ((2 : Int) ^ 7) = 128 from rfl, Int.emod_eq_of_lt h (by omega)]
  by_cases hx : x ≤ 255
  · rw [decide_eq_true hx, beq_iff_eq]; omega
  · rw [decide_eq_false hx, beq_eq_false_iff_ne]; omega
theorem rd3 (a b c : Int) : rd [a, b, c] 0 = a ∧ rd [a, b, c] 1 = b ∧ rd [a, b, c] 2 = c := ⟨rfl, rfl, rfl⟩
section
variable (x : In)
theorem p_right_step (n i v : Int) (a b c : Int) (k : Nat) (hi : 0 ≤ i ∧ i ≤ 2) (hv : rd [a, b, c] i = v) (hb : i64 v) :
    code_right.l0 (k + 1) n [a, b, c] 3 i x.f0 x.f1 x.f2 x.f3 x.f4.f0 x.f4.f1 x.f4.f2 = if argOK n i v = true then code_right.l0 k n [a, b, c] 3 (i + 1) x.f0 x.f1 x.f2 x.f3 x.f4.f0 x.f4.f1 x.f4.f2 else some false := by
  simp only [code_right.l0]
  have hw : wrap64 (i + 1) = i + 1 := by unfold wrap64; omega
  rw [if_pos (show i < 3 by omega), if_pos hi.1, if_pos (show i < (([a, b, c] : List Int).length : Int) by show i < 3; omega), hv, hw]
  unfold argOK
  by_cases h0 : v < 0
  · rw [if_pos h0, decide_eq_false (show ¬ (0 ≤ v ∧ v ≤ 255) by omega)]; rfl
  · rw [if_neg h0, fits1 v (by omega) hb.2, Option.bind_some]
    by_cases h255 : v ≤ 255
    · rw [decide_eq_true h255, if_pos rfl, decide_eq_true (show 0 ≤ v ∧ v ≤ 255 by omega)]
      by_cases hn : i ≥ n
      · rw [if_pos hn, decide_eq_false (show ¬ i < n by omega)]
        by_cases hz : v = 0
        · rw [if_pos hz, decide_eq_true hz]; rfl
        · rw [if_neg hz, decide_eq_false hz]; rfl
      · rw [if_neg hn, decide_eq_true (show i < n by omega)]; rfl
    · rw [decide_eq_false h255, decide_eq_false (show ¬ (0 ≤ v ∧ v ≤ 255) by omega)]; rfl
theorem p_right (hx : Fit x) {k : Nat} (hk : 4 ≤ k) : code_right.f k x.f0 x.f1 x.f2 x.f3 x.f4.f0 x.f4.f1 x.f4.f2 = some (instOK x) := by
  obtain ⟨j, rfl⟩ : ∃ j, k = j + 1 + 1 + 1 + 1 := ⟨k - 4, by omega⟩
  unfold code_right.f instOK argsOK
  rw [p_ops, Option.bind_some]
  cases opOK x.f0 with
  | false => rfl
  | true =>
    rw [if_pos rfl]
    show (code_right.l0 (j + 1 + 1 + 1 + 1) (opN x.f0) [x.f1, x.f2, x.f3] 3 0 x.f0 x.f1 x.f2 x.f3 x.f4.f0 x.f4.f1 x.f4.f2) = _
    rw [p_right_step x _ 0 x.f1 _ _ _ _ (by omega) rfl hx.a, show (0 : Int) + 1 = 1 from rfl, p_right_step x _ 1 x.f2 _ _ _ _ (by omega) rfl hx.b, show (1 : Int) + 1 = 2 from rfl, p_right_step x _ 2 x.f3 _ _ _ _ (by omega) rfl hx.c, show (2 : Int) + 1 = 3 from rfl]
    have last : code_right.l0 (j + 1) (opN x.f0) [x.f1, x.f2, x.f3] 3 3 x.f0 x.f1 x.f2 x.f3 x.f4.f0 x.f4.f1 x.f4.f2 = some (vOK x) := by
      simp only [code_right.l0]
      rw [if_neg (by decide)]
      unfold vOK
      by_cases h1 : x.f0 = 1
      · rw [if_pos h1, if_pos h1, show ([(⟨x.f4.f0, x.f4.f1, x.f4.f2⟩ : Vl)] : List Vl) = [x.f4] from rfl, kw1 x.f4 hx.s]
        unfold valOK
        cases oddV x.f4 with
        | true => rfl
        | false =>
          rw [if_neg (by decide), Option.bind_some, if_pos rfl]
          congr 1
          by_cases hs : x.f4.f2.size ≤ 10
          · rw [decide_eq_true (by omega), decide_eq_true hs]; rfl
          · rw [decide_eq_false (by omega), decide_eq_false hs]; rfl
      · rw [if_neg h1, if_neg h1]; rfl
    rw [last]
    cases argOK (opN x.f0) 0 x.f1 <;> cases argOK (opN x.f0) 1 x.f2 <;> cases argOK (opN x.f0) 2 x.f3 <;> rfl
theorem r_right_step (n i v : Int) (ok : Bool) (a b c : Int) (k : Nat) (hi : 0 ≤ i ∧ i ≤ 2) (hv : rd [a, b, c] i = v) :
    factotumref13_Right.l0 (k + 1) n ok [a, b, c] i x.f0 x.f1 x.f2 x.f3 x.f4.f0 x.f4.f1 x.f4.f2 = if argOK n i v = true then factotumref13_Right.l0 k n ok [a, b, c] (i + 1) x.f0 x.f1 x.f2 x.f3 x.f4.f0 x.f4.f1 x.f4.f2 else some false := by
  simp only [factotumref13_Right.l0]
  have hw : wrap64 (i + 1) = i + 1 := by unfold wrap64; omega
  rw [if_pos (show i < 3 by omega), if_pos hi.1, if_pos (show i < (([a, b, c] : List Int).length : Int) by show i < 3; omega), hv, hw]
  unfold argOK
  by_cases h0 : v < 0
  · rw [if_pos h0, decide_eq_false (show ¬ (0 ≤ v ∧ v ≤ 255) by omega)]; rfl
  · rw [if_neg h0]
    by_cases h255 : v > 255
    · rw [if_pos h255, decide_eq_false (show ¬ (0 ≤ v ∧ v ≤ 255) by omega)]; rfl
    · rw [if_neg h255, decide_eq_true (show 0 ≤ v ∧ v ≤ 255 by omega)]
      by_cases hn : i ≥ n
      · rw [if_pos hn, decide_eq_false (show ¬ i < n by omega)]
        by_cases hz : v = 0
        · rw [if_pos hz, decide_eq_true hz]; rfl
        · rw [if_neg hz, decide_eq_false hz]; rfl
      · rw [if_neg hn, decide_eq_true (show i < n by omega)]; rfl
theorem r_right {k : Nat} (hk : 4 ≤ k) : factotumref13_Right.f k x.f0 x.f1 x.f2 x.f3 x.f4.f0 x.f4.f1 x.f4.f2 = some (instOK x) := by
  obtain ⟨j, rfl⟩ : ∃ j, k = j + 1 + 1 + 1 + 1 := ⟨k - 4, by omega⟩
  unfold factotumref13_Right.f instOK argsOK
  rw [r_ops _ (by omega), Option.bind_some]
  simp only
  rw [r_right_step x _ 0 x.f1 _ _ _ _ _ (by omega) rfl, show (0 : Int) + 1 = 1 from rfl, r_right_step x _ 1 x.f2 _ _ _ _ _ (by omega) rfl, show (1 : Int) + 1 = 2 from rfl, r_right_step x _ 2 x.f3 _ _ _ _ _ (by omega) rfl, show (2 : Int) + 1 = 3 from rfl]
  have last : factotumref13_Right.l0 (j + 1) (opN x.f0) (opOK x.f0) [x.f1, x.f2, x.f3] 3 x.f0 x.f1 x.f2 x.f3 x.f4.f0 x.f4.f1 x.f4.f2 = some (opOK x.f0 && vOK x) := by
    simp only [factotumref13_Right.l0]
    rw [if_neg (by decide)]
    unfold vOK
    by_cases h1 : x.f0 = 1
    · rw [if_pos h1, if_pos h1, right_odd, Option.bind_some]
      unfold valOK
      cases opOK x.f0 with
      | false => rfl
      | true =>
        cases oddV x.f4 with
        | true => rfl
        | false =>
          show (if true = true then some (decide ((x.f4.f2.size : Int) ≤ 10)) else some false) = _
          rw [if_pos rfl]
          congr 1
          by_cases hs : x.f4.f2.size ≤ 10
          · rw [decide_eq_true (by omega), decide_eq_true hs]; rfl
          · rw [decide_eq_false (by omega), decide_eq_false hs]; rfl
    · rw [if_neg h1, if_neg h1]
      cases opOK x.f0 <;> rfl
  rw [last]
  cases argOK (opN x.f0) 0 x.f1 <;> cases argOK (opN x.f0) 1 x.f2 <;> cases argOK (opN x.f0) 2 x.f3 <;> cases opOK x.f0 <;> rfl
/-! ## bytes -/
def encA (l : List Int) : List UInt8 := l.map fun v => UInt8.ofNat (v % 256).toNat
def encC (x : In) : List UInt8 :=
  if x.f0 = 1 then (if x.f4.f0 = 1 then 1 :: beN 8 (IntKind.u64.wrap x.f4.f1) else 2 :: UInt8.ofNat (min x.f4.f2.data.toList.length 255) :: x.f4.f2.data.toList.take 255) else []
/-- an instruction's bytes -/
def encI (x : In) : List UInt8 := UInt8.ofNat (x.f0 % 256).toNat :: (encA ([x.f1, x.f2, x.f3].take (opN x.f0).toNat) ++ encC x)
theorem bi_one (x : List UInt8) (v : Int) : bi x ++ [v % 256] = bi (x ++ [UInt8.ofNat (v % 256).toNat]) := by
  rw [bi_app]; unfold bi; simp only [List.map_cons, List.map_nil]; rw [bback]
theorem nexti (i : Nat) (h : i < 140737488355328) : wrap64 ((i : Int) + 1) = ((i + 1 : Nat) : Int) := (IntWalk.wrap64_in _ ⟨by omega, by omega⟩).trans (by omega)
theorem put_last (k : Nat) (y : List Int) (pre : List UInt8) (hp : pre.length < 1000000) : code_put.l0 (k + 10) (bi pre) y (y.length : Int) (y.length : Int) x.f0 x.f1 x.f2 x.f3 x.f4.f0 x.f4.f1 x.f4.f2 = some (bi (pre ++ encC x)) := by
  have hl : (bi pre).length = pre.length := bi_len _
  have e : ∀ c : UInt8, bi pre ++ [(c.toNat : Int)] = bi (pre ++ [c]) := fun c => by rw [bi_app]; rfl
  have l1 : ∀ c : UInt8, (bi (pre ++ [c])).length = pre.length + 1 := fun c => by rw [bi_len]; simp
  rw [show k + 10 = (k + 9) + 1 from rfl]
  simp only [code_put.l0]
  rw [if_neg (by omega)]
  unfold encC
  by_cases h1 : x.f0 = 1
  · rw [if_pos h1, if_pos h1]
    by_cases h2 : x.f4.f0 = 1
    · rw [if_pos h2, if_pos h2, if_pos (by rw [hl]; omega), show ([1] : List Int) = [((1 : UInt8).toNat : Int)] from rfl, e, show (8 : Int) = ((8 : Nat) : Int) from rfl, pnum k _ _ 8 (by omega) (by rw [l1]; omega), Option.bind_some, ← bi_app]; simp
    · rw [if_neg h2, if_neg h2, if_pos (by rw [hl]; omega), show ([2] : List Int) = [((2 : UInt8).toNat : Int)] from rfl, e]
      conv => lhs; rw [of_B x.f4.f2]
      rw [pstr _ _ (by rw [l1]; omega), Option.bind_some, ← bi_app]; simp
  · rw [if_neg h1, if_neg h1, List.append_nil]
theorem put_go (k : Nat) (y : List Int) (hy : y.length ≤ 3) : ∀ (m i : Nat) (pre : List UInt8), i + m = y.length → pre.length + m < 1000000 → code_put.l0 (k + m + 10) (bi pre) y (y.length : Int) (i : Int) x.f0 x.f1 x.f2 x.f3 x.f4.f0 x.f4.f1 x.f4.f2 = some (bi (pre ++ encA (y.drop i) ++ encC x)) := by
  intro m
  induction m with
  | zero =>
    intro i pre hi hp
    have : i = y.length := by omega
    subst this
    rw [List.drop_eq_nil_of_le (by omega)]
    show code_put.l0 (k + 10) _ _ _ _ _ _ _ _ _ _ _ = some (bi (pre ++ [] ++ encC x))
    rw [List.append_nil]
    exact put_last x k y pre (by omega)
  | succ m ih =>
    intro i pre hi hp
    have hlt : i < y.length := by omega
    have hr : rd y (i : Int) = y[i] := by unfold rd; rw [Int.toNat_natCast, List.getD_eq_getElem?_getD, List.getElem?_eq_getElem hlt]; rfl
    rw [show k + (m + 1) + 10 = (k + m + 10) + 1 by omega]
    generalize hK : k + m + 10 = K
    simp only [code_put.l0]
    subst hK
    rw [if_pos (by omega), if_pos (by omega), if_pos (by omega), if_pos (by rw [bi_len]; omega), hr, bi_one, nexti i (by omega), ih (i + 1) _ (by omega) (by simp; omega), List.drop_eq_getElem_cons hlt]
    show some (bi (pre ++ [UInt8.ofNat (y[i] % 256).toNat] ++ encA (y.drop (i + 1)) ++ encC x)) = some (bi (pre ++ (UInt8.ofNat (y[i] % 256).toNat :: encA (y.drop (i + 1))) ++ encC x))
    rw [List.append_assoc pre]; rfl
theorem p_put (k : Nat) (pre : List UInt8) (hp : pre.length < 999900) : code_put.f (k + 13) (bi pre) x.f0 x.f1 x.f2 x.f3 x.f4.f0 x.f4.f1 x.f4.f2 = some (bi (pre ++ encI x)) := by
  unfold code_put.f code_list.f
  obtain ⟨n0, n3⟩ := opN_le x.f0
  rw [p_ops, Option.bind_some, if_pos (by rw [bi_len]; omega), Option.bind_some]
  simp only
  rw [if_pos n0, if_pos (show opN x.f0 ≤ (([x.f1, x.f2, x.f3] : List Int).length : Int) by show _ ≤ 3; exact n3), Option.bind_some, bi_one]
  have hl : ([x.f1, x.f2, x.f3].take (opN x.f0).toNat).length ≤ 3 := by rw [List.length_take]; exact Nat.min_le_right _ _
  have := put_go x (k + 3 - ([x.f1, x.f2, x.f3].take (opN x.f0).toNat).length) ([x.f1, x.f2, x.f3].take (opN x.f0).toNat) hl ([x.f1, x.f2, x.f3].take (opN x.f0).toNat).length 0 (pre ++ [UInt8.ofNat (x.f0 % 256).toNat]) (by omega) (by simp only [List.length_append, List.length_singleton]; omega)
  rw [show k + 3 - ([x.f1, x.f2, x.f3].take (opN x.f0).toNat).length + ([x.f1, x.f2, x.f3].take (opN x.f0).toNat).length + 10 = k + 13 by omega] at this
  show code_put.l0 (k + 13) _ _ _ (0 : Int) _ _ _ _ _ _ _ = _
  rw [show (0 : Int) = ((0 : Nat) : Int) from rfl, this, List.drop_zero]
  unfold encI
  simp
theorem encI_len : (encI x).length ≤ 300 := by
  have h1 : (encA ([x.f1, x.f2, x.f3].take (opN x.f0).toNat)).length ≤ 3 := by unfold encA; rw [List.length_map, List.length_take]; exact Nat.min_le_right _ _
  have h2 : (encC x).length ≤ 257 := by
    have h8 := beN_len 8 (IntKind.u64.wrap x.f4.f1)
    unfold encC
    split
    · split
      · rw [List.length_cons, h8]; omega
      · rw [List.length_cons, List.length_cons, List.length_take]; omega
    · exact Nat.zero_le _
  unfold encI
  rw [List.length_cons, List.length_append]; omega
end
end Go.Proofs.YtljfichnlgfikaaDoor.XI
