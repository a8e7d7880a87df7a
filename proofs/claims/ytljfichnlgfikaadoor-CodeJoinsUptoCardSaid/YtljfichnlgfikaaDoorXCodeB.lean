/- Programs as bytes, and back: there and back, heads, and programs that are the same. Plain laws over the printed functions. No conditions. -/
import Derived.Test.YtljfichnlgfikaaDoorXCode
namespace Go.Proofs.YtljfichnlgfikaaDoor.XC
open Go.RowKit Go.Proofs.YtljfichnlgfikaaDoor.XW Go.Proofs.YtljfichnlgfikaaDoor.XLib Go.Proofs.YtljfichnlgfikaaDoor.PAll Go.Proofs.YtljfichnlgfikaaDoorW.PrintWords Go.Proofs.YtljfichnlgfikaaDoorW.PrintLast Go.Proofs.YtljfichnlgfikaaDoor.XP Go.Proofs.YtljfichnlgfikaaDoor.XV Go.Proofs.YtljfichnlgfikaaDoor.XI
theorem numE_one (c : UInt8) (r : List UInt8) : numE (c :: r) 0 1 = ((c.toNat : Int), r, 0) := by
  unfold numE
  rw [if_pos rfl, if_neg (by simp)]
  have : beNum [c] = (c.toNat : Int) := by have := c.toNat_lt; show beStep 0 c = _; unfold beStep; omega
  simp [this]
theorem numE_nil : numE [] 0 1 = (0, [], 2) := rfl
theorem numE_err (l : List UInt8) (e : Int) (w : Nat) (he : e ≠ 0) : numE l e w = (0, l, e) := by unfold numE; rw [if_neg he]
theorem numE_short (l : List UInt8) (w : Nat) (h : l.length < w) : numE l 0 w = (0, l, 2) := by unfold numE; rw [if_pos rfl, if_pos h]
theorem numE_app (a b : List UInt8) (w : Nat) (h : a.length = w) : numE (a ++ b) 0 w = (beNum a, b, 0) := by
  subst h
  unfold numE
  rw [if_pos rfl, if_neg (by simp), List.take_left, List.drop_left]
theorem strE_app (s b : List UInt8) (m : Nat) (h : s.length ≤ m) (hm : m < 256) : strE (UInt8.ofNat s.length :: (s ++ b)) 0 m = (s, b, 0) := by
  have hc : (UInt8.ofNat s.length).toNat = s.length := by rw [UInt8.toNat_ofNat']; omega
  unfold strE
  rw [if_pos rfl]
  show (if m < (UInt8.ofNat s.length).toNat then ([], UInt8.ofNat s.length :: (s ++ b), (3 : Int)) else if (s ++ b).length < (UInt8.ofNat s.length).toNat then ([], UInt8.ofNat s.length :: (s ++ b), 2) else ((s ++ b).take (UInt8.ofNat s.length).toNat, (s ++ b).drop (UInt8.ofNat s.length).toNat, 0)) = _
  rw [hc, if_neg (by omega), if_neg (by simp), List.take_left, List.drop_left]
/-- a number's byte -/
def b8 (v : Int) : UInt8 := UInt8.ofNat (v % 256).toNat
theorem b8_to (v : Int) (h : 0 ≤ v ∧ v ≤ 255) : ((b8 v).toNat : Int) = v := by unfold b8; rw [bback]; omega
theorem b8_of (c : UInt8) : b8 (c.toNat : Int) = c := bofc c
/-! ## operands -/
theorem opN_cases (op : Int) : opN op = 0 ∨ opN op = 1 ∨ opN op = 2 ∨ opN op = 3 := by have := opN_le op; omega
theorem arg_in {n i x : Int} (h : argOK n i x = true) : 0 ≤ x ∧ x ≤ 255 := by unfold argOK at h; simp only [Bool.and_eq_true, decide_eq_true_eq] at h; exact h.1
theorem arg_zero {n i x : Int} (h : argOK n i x = true) (hi : ¬ i < n) : x = 0 := by
  unfold argOK at h; simp only [Bool.and_eq_true, Bool.or_eq_true, decide_eq_true_eq] at h; rcases h.2 with h2 | h2
  · exact absurd h2 hi
  · exact h2
theorem arg_byte (c : UInt8) (n i : Int) (h : i < n) : argOK n i (c.toNat : Int) = true := by
  have := c.toNat_lt
  unfold argOK; rw [decide_eq_true (show 0 ≤ (c.toNat : Int) ∧ (c.toNat : Int) ≤ 255 by omega), decide_eq_true h]; rfl
theorem arg_nil (n i : Int) : argOK n i 0 = true := by unfold argOK; simp
theorem args_enc (n a b c : Int) (r : List UInt8) (hn : n = 0 ∨ n = 1 ∨ n = 2 ∨ n = 3) (ha : argOK n 0 a = true) (hb : argOK n 1 b = true) (hc : argOK n 2 c = true) :
    (rd1 n (encA ([a, b, c].take n.toNat) ++ r) 0).1 = a ∧ (rd2 n (encA ([a, b, c].take n.toNat) ++ r) 0).1 = b ∧ rd3 n (encA ([a, b, c].take n.toNat) ++ r) 0 = (c, r, 0) := by
  have ea := b8_to a (arg_in ha)
  have eb := b8_to b (arg_in hb)
  have ec := b8_to c (arg_in hc)
  unfold rd3 rd2 rd1 rdE
  rcases hn with rfl | rfl | rfl | rfl
  · rw [arg_zero ha (by decide), arg_zero hb (by decide), arg_zero hc (by decide)]
    exact ⟨rfl, rfl, rfl⟩
  · rw [arg_zero hb (by decide), arg_zero hc (by decide)]
    show (numE (b8 a :: r) 0 1).1 = a ∧ (0 : Int) = 0 ∧ ((0 : Int), (numE (b8 a :: r) 0 1).2.1, (numE (b8 a :: r) 0 1).2.2) = (0, r, 0)
    rw [numE_one, ea]; exact ⟨rfl, rfl, rfl⟩
  · rw [arg_zero hc (by decide)]
    show (numE (b8 a :: b8 b :: r) 0 1).1 = a ∧ (numE (numE (b8 a :: b8 b :: r) 0 1).2.1 (numE (b8 a :: b8 b :: r) 0 1).2.2 1).1 = b ∧ ((0 : Int), (numE (numE (b8 a :: b8 b :: r) 0 1).2.1 (numE (b8 a :: b8 b :: r) 0 1).2.2 1).2.1, (numE (numE (b8 a :: b8 b :: r) 0 1).2.1 (numE (b8 a :: b8 b :: r) 0 1).2.2 1).2.2) = (0, r, 0)
    simp only [numE_one, ea, eb, and_self]
  · show (numE (b8 a :: b8 b :: b8 c :: r) 0 1).1 = a ∧ (numE (numE (b8 a :: b8 b :: b8 c :: r) 0 1).2.1 (numE (b8 a :: b8 b :: b8 c :: r) 0 1).2.2 1).1 = b ∧ numE (numE (numE (b8 a :: b8 b :: b8 c :: r) 0 1).2.1 (numE (b8 a :: b8 b :: b8 c :: r) 0 1).2.2 1).2.1 (numE (numE (b8 a :: b8 b :: b8 c :: r) 0 1).2.1 (numE (b8 a :: b8 b :: b8 c :: r) 0 1).2.2 1).2.2 1 = (c, r, 0)
    simp only [numE_one, ea, eb, ec, and_self]
theorem encA_cons (v : Int) (l : List Int) : encA (v :: l) = b8 v :: encA l := rfl
theorem args_dec (n : Int) (l : List UInt8) (hn : n = 0 ∨ n = 1 ∨ n = 2 ∨ n = 3) (h : (rd3 n l 0).2.2 = 0) :
    argOK n 0 (rd1 n l 0).1 = true ∧ argOK n 1 (rd2 n l 0).1 = true ∧ argOK n 2 (rd3 n l 0).1 = true ∧ l = encA ([(rd1 n l 0).1, (rd2 n l 0).1, (rd3 n l 0).1].take n.toNat) ++ (rd3 n l 0).2.1 := by
  rcases hn with rfl | rfl | rfl | rfl
  · exact ⟨rfl, rfl, rfl, rfl⟩
  · cases l with
    | nil => cases h
    | cons x l =>
      have e1 : rd1 1 (x :: l) 0 = ((x.toNat : Int), l, 0) := numE_one x l
      have e2 : rd2 1 (x :: l) 0 = (0, l, 0) := by unfold rd2; rw [e1]; rfl
      have e3 : rd3 1 (x :: l) 0 = (0, l, 0) := by unfold rd3; rw [e2]; rfl
      rw [e1, e2, e3]
      refine ⟨arg_byte x _ _ (by decide), arg_nil _ _, arg_nil _ _, ?_⟩
      show x :: l = b8 (x.toNat : Int) :: ([] ++ l)
      rw [b8_of]; rfl
  · cases l with
    | nil => cases h
    | cons x l =>
      have e1 : rd1 2 (x :: l) 0 = ((x.toNat : Int), l, 0) := numE_one x l
      cases l with
      | nil =>
        have e2 : rd2 2 [x] 0 = (0, [], 2) := by unfold rd2; rw [e1]; rfl
        have e3 : rd3 2 [x] 0 = (0, [], 2) := by unfold rd3; rw [e2]; rfl
        rw [e3] at h; cases h
      | cons y l =>
        have e2 : rd2 2 (x :: y :: l) 0 = ((y.toNat : Int), l, 0) := by unfold rd2; rw [e1]; exact numE_one y l
        have e3 : rd3 2 (x :: y :: l) 0 = (0, l, 0) := by unfold rd3; rw [e2]; rfl
        rw [e1, e2, e3]
        refine ⟨arg_byte x _ _ (by decide), arg_byte y _ _ (by decide), arg_nil _ _, ?_⟩
        show x :: y :: l = b8 (x.toNat : Int) :: b8 (y.toNat : Int) :: ([] ++ l)
        rw [b8_of, b8_of]; rfl
  · cases l with
    | nil => cases h
    | cons x l =>
      have e1 : rd1 3 (x :: l) 0 = ((x.toNat : Int), l, 0) := numE_one x l
      cases l with
      | nil =>
        have e2 : rd2 3 [x] 0 = (0, [], 2) := by unfold rd2; rw [e1]; rfl
        have e3 : rd3 3 [x] 0 = (0, [], 2) := by unfold rd3; rw [e2]; rfl
        rw [e3] at h; cases h
      | cons y l =>
        have e2 : rd2 3 (x :: y :: l) 0 = ((y.toNat : Int), l, 0) := by unfold rd2; rw [e1]; exact numE_one y l
        cases l with
        | nil =>
          have e3 : rd3 3 [x, y] 0 = (0, [], 2) := by unfold rd3; rw [e2]; rfl
          rw [e3] at h; cases h
        | cons z l =>
          have e3 : rd3 3 (x :: y :: z :: l) 0 = ((z.toNat : Int), l, 0) := by unfold rd3; rw [e2]; exact numE_one z l
          rw [e1, e2, e3]
          refine ⟨arg_byte x _ _ (by decide), arg_byte y _ _ (by decide), arg_byte z _ _ (by decide), ?_⟩
          show x :: y :: z :: l = b8 (x.toNat : Int) :: b8 (y.toNat : Int) :: b8 (z.toNat : Int) :: ([] ++ l)
          rw [b8_of, b8_of, b8_of]; rfl
theorem args_short (n a b c : Int) (p t : List UInt8) (hn : n = 0 ∨ n = 1 ∨ n = 2 ∨ n = 3) (ht : t ≠ []) (h : p ++ t = encA ([a, b, c].take n.toNat)) : (rd3 n p 0).2.2 = 2 := by
  have hl := congrArg List.length h
  have ht' : 0 < t.length := List.length_pos_iff.2 ht
  rw [List.length_append] at hl
  rcases hn with rfl | rfl | rfl | rfl
  · have : p.length + t.length = 0 := hl
    omega
  · have : p.length + t.length = 1 := hl
    obtain rfl : p = [] := List.eq_nil_of_length_eq_zero (by omega)
    rfl
  · have : p.length + t.length = 2 := hl
    match p, this with
    | [], _ => rfl
    | [x], _ => unfold rd3 rd2; rw [show rd1 2 [x] 0 = ((x.toNat : Int), [], 0) from numE_one x []]; rfl
    | x :: y :: q, h2 => exact absurd h2 (by simp; omega)
  · have : p.length + t.length = 3 := hl
    match p, this with
    | [], _ => rfl
    | [x], _ => unfold rd3 rd2; rw [show rd1 3 [x] 0 = ((x.toNat : Int), [], 0) from numE_one x []]; rfl
    | [x, y], _ =>
      have e2 : rd2 3 [x, y] 0 = ((y.toNat : Int), [], 0) := by unfold rd2; rw [show rd1 3 [x, y] 0 = ((x.toNat : Int), [y], 0) from numE_one x [y]]; exact numE_one y []
      unfold rd3; rw [e2]; rfl
    | x :: y :: z :: q, h2 => exact absurd h2 (by simp; omega)
/-! ## a constant -/
def encW (v : Vl) : List UInt8 := if v.f0 = 1 then 1 :: beN 8 (IntKind.u64.wrap v.f1) else 2 :: UInt8.ofNat (min v.f2.data.toList.length 255) :: v.f2.data.toList.take 255
theorem encC_eq (x : In) (h : x.f0 = 1) : encC x = encW x.f4 := by unfold encC encW; rw [if_pos h]
theorem be8_num (n : Int) (h : i64 n) : wrap64 (beNum (beN 8 (IntKind.u64.wrap n))) = n := by
  unfold i64 at h
  have e : ((256 ^ 8 : Nat) : Int) = 18446744073709551616 := by decide
  rw [beNum_beN 8 _ (by omega) (by rw [wrapu]; omega) (by rw [wrapu, e]; omega), wrapu]; unfold wrap64; omega
theorem val_enc (v : Vl) (r : List UInt8) (h : valOK v = true) (hn : i64 v.f1) : valE (encW v ++ r) 0 = (v, r, 0, false) := by
  unfold valE encW
  rcases ok_cases v h with ⟨h1, h2⟩ | ⟨h1, h2, h3⟩
  · rw [if_pos h1]
    have e : numE (1 :: beN 8 (IntKind.u64.wrap v.f1) ++ r) 0 1 = (1, beN 8 (IntKind.u64.wrap v.f1) ++ r, 0) := numE_one 1 _
    rw [e, if_pos rfl, if_pos rfl, numE_app _ _ 8 (beN_len 8 _), be8_num _ hn, ← eq_mk v h1 rfl h2]
  · have hl : v.f2.data.toList.length ≤ 10 := by rw [← Lib.size_eq]; exact h3
    rw [if_neg (show ¬ v.f0 = 1 by omega), Nat.min_eq_left (by omega), List.take_of_length_le (by omega)]
    have e : numE (2 :: UInt8.ofNat v.f2.data.toList.length :: v.f2.data.toList ++ r) 0 1 = (2, UInt8.ofNat v.f2.data.toList.length :: (v.f2.data.toList ++ r), 0) := numE_one 2 _
    rw [e, if_pos rfl, if_neg (by simp), if_pos rfl, strE_app _ _ 10 hl (by omega), ← of_B, ← eq_mk v h1 h2 rfl]
theorem val_dec (l : List UInt8) (h : errI (valE l 0) = 0) : valOK (valE l 0).1 = true ∧ l = encW (valE l 0).1 ++ (valE l 0).2.1 ∧ i64 (valE l 0).1.f1 := by
  cases l with
  | nil => cases h
  | cons c r =>
    unfold valE at h ⊢
    rw [numE_one] at h ⊢
    simp only at h ⊢
    rw [if_pos trivial] at h ⊢
    by_cases h1 : (c.toNat : Int) = 1
    · rw [if_pos h1] at h ⊢
      have hc : c = 1 := UInt8.toNat_inj.1 (by simpa using (show c.toNat = 1 by omega))
      have h8 : 8 ≤ r.length := by
        rcases Nat.lt_or_ge r.length 8 with hx | hx
        · rw [numE_short r 8 hx] at h; cases h
        · exact hx
      obtain ⟨a, b, rfl, ha⟩ : ∃ a b, r = a ++ b ∧ a.length = 8 := ⟨r.take 8, r.drop 8, (List.take_append_drop 8 r).symm, by rw [List.length_take]; omega⟩
      rw [numE_app a b 8 ha] at h ⊢
      have hlt := beNum_lt a (by omega)
      have hbd := (beNum_bd a).1
      rw [ha, show ((256 ^ 8 : Nat) : Int) = 18446744073709551616 from by decide] at hlt
      refine ⟨ok_num _, ?_, by unfold i64 wrap64; simp only; omega⟩
      unfold encW
      rw [if_pos rfl, hc]
      simp only
      have e : IntKind.u64.wrap (wrap64 (beNum a)) = beNum a := by rw [wrapu]; unfold wrap64; omega
      rw [e]
      have := beN_beNum a (by omega)
      rw [ha] at this
      rw [this]; rfl
    · rw [if_neg h1] at h ⊢
      by_cases h2 : (c.toNat : Int) = 2
      · rw [if_pos h2] at h ⊢
        have hc : c = 2 := UInt8.toNat_inj.1 (by simpa using (show c.toNat = 2 by omega))
        cases r with
        | nil => cases h
        | cons d r =>
          have hd := d.toNat_lt
          unfold strE at h ⊢
          rw [if_pos rfl] at h ⊢
          simp only at h ⊢
          by_cases h3 : 10 < d.toNat
          · rw [if_pos h3] at h; cases h
          · rw [if_neg h3] at h ⊢
            by_cases h4 : r.length < d.toNat
            · rw [if_pos h4] at h; cases h
            · rw [if_neg h4] at h ⊢
              have hl : (r.take d.toNat).length = d.toNat := by rw [List.length_take]; omega
              refine ⟨ok_text _ (by rw [B_size, hl]; omega), ?_, show i64 0 by unfold i64; omega⟩
              unfold encW
              rw [if_neg (show ¬ ((2 : Int) = 1) by decide), hc]
              show 2 :: d :: r = 2 :: UInt8.ofNat (min (r.take d.toNat).length 255) :: (r.take d.toNat).take 255 ++ r.drop d.toNat
              rw [hl, Nat.min_eq_left (by omega), List.take_of_length_le (by omega), show UInt8.ofNat d.toNat = d from UInt8.ofNat_toNat]
              simp
      · rw [if_neg h2] at h; cases h
theorem val_short (v : Vl) (p t : List UInt8) (h : valOK v = true) (ht : t ≠ []) (he : p ++ t = encW v) : errI (valE p 0) = 2 := by
  have ht' : 0 < t.length := List.length_pos_iff.2 ht
  cases p with
  | nil => rfl
  | cons c p =>
    unfold encW at he
    rw [List.cons_append] at he
    unfold valE
    rw [numE_one]
    simp only
    rw [if_pos trivial]
    rcases ok_cases v h with ⟨h1, h2⟩ | ⟨h1, h2, h3⟩
    · rw [if_pos h1] at he
      injection he with e1 e2
      subst e1
      have hl := congrArg List.length e2
      rw [List.length_append, beN_len] at hl
      rw [if_pos (by rfl), numE_short p 8 (by omega)]; rfl
    · have hl0 : v.f2.data.toList.length ≤ 10 := by rw [← Lib.size_eq]; exact h3
      rw [if_neg (by omega), Nat.min_eq_left (by omega), List.take_of_length_le (by omega)] at he
      injection he with e1 e2
      subst e1
      rw [if_neg (by decide), if_pos (by rfl)]
      cases p with
      | nil => rfl
      | cons d q =>
        rw [List.cons_append] at e2
        injection e2 with e3 e4
        subst e3
        have hl := congrArg List.length e4
        rw [List.length_append] at hl
        have hc : (UInt8.ofNat v.f2.data.toList.length).toNat = v.f2.data.toList.length := by rw [UInt8.toNat_ofNat']; omega
        unfold strE
        rw [if_pos rfl]
        simp only
        rw [hc, if_neg (by omega), if_pos (by omega)]; rfl
/-! ## an instruction -/
theorem ok_op (x : In) (h : instOK x = true) : opOK x.f0 = true ∧ (argOK (opN x.f0) 0 x.f1 = true ∧ argOK (opN x.f0) 1 x.f2 = true ∧ argOK (opN x.f0) 2 x.f3 = true) ∧ vOK x = true := by
  unfold instOK argsOK at h
  simp only [Bool.and_eq_true] at h
  exact ⟨h.1, ⟨h.2.1.1, h.2.1.2.1, h.2.1.2.2⟩, h.2.2⟩
theorem op_in {op : Int} (h : opOK op = true) : 0 ≤ op ∧ op ≤ 255 := by unfold opOK at h; have := of_decide_eq_true h; omega
theorem zero_eq (v : Vl) (h : zeroV v = true) : v = zV := by
  unfold zeroV at h
  simp only [Bool.and_eq_true, beq_iff_eq] at h
  exact eq_mk v h.1 h.2.1 (empty_of _ h.2.2)
theorem zero_z : zeroV zV = true := by unfold zeroV zV; simp only [Lib.toList_data]; rfl
theorem inst_enc (x : In) (r : List UInt8) (h : instOK x = true) (hn : i64 x.f4.f1) : instE (encI x ++ r) 0 = (x, r, 0, false) := by
  obtain ⟨ho, ⟨ha, hb, hc⟩, hv⟩ := ok_op x h
  unfold instE encI
  have e1 : numE (b8 x.f0 :: (encA ([x.f1, x.f2, x.f3].take (opN x.f0).toNat) ++ encC x) ++ r) 0 1 = (x.f0, encA ([x.f1, x.f2, x.f3].take (opN x.f0).toNat) ++ (encC x ++ r), 0) := by
    have := numE_one (b8 x.f0) (encA ([x.f1, x.f2, x.f3].take (opN x.f0).toNat) ++ encC x ++ r)
    rw [b8_to _ (op_in ho)] at this
    rw [List.append_assoc] at this
    rw [List.cons_append, List.append_assoc]
    exact this
  rw [show UInt8.ofNat (x.f0 % 256).toNat = b8 x.f0 from rfl, e1]
  obtain ⟨a1, a2, a3⟩ := args_enc (opN x.f0) x.f1 x.f2 x.f3 (encC x ++ r) (opN_cases _) ha hb hc
  rw [bodyE_eq]
  simp only
  rw [a1, a2, a3]
  by_cases h1 : x.f0 = 1
  · rw [if_pos h1, encC_eq x h1]
    unfold vOK at hv
    rw [if_pos h1] at hv
    rw [val_enc x.f4 r hv hn]
  · rw [if_neg h1, ho]
    unfold vOK at hv
    rw [if_neg h1] at hv
    have hz := zero_eq _ hv
    have hc' : encC x = [] := by unfold encC; rw [if_neg h1]
    rw [hc', ← hz]; rfl
theorem errI_zero {α : Type} {q : α × List UInt8 × Int × Bool} (h : errI q = 0) : q.2.2.1 = 0 ∧ q.2.2.2 = false := by
  unfold errI at h
  cases hb : q.2.2.2 with
  | true => rw [hb] at h; cases h
  | false => rw [hb] at h; exact ⟨h, rfl⟩
theorem inst_dec (l : List UInt8) (hl : l ≠ []) (h : errI (instE l 0) = 0) : instOK (instE l 0).1 = true ∧ l = encI (instE l 0).1 ++ (instE l 0).2.1 ∧ i64 (instE l 0).1.f4.f1 := by
  cases l with
  | nil => exact absurd rfl hl
  | cons c r =>
    obtain ⟨h0, hf⟩ := errI_zero h
    clear h hl
    unfold instE at h0 hf ⊢
    rw [numE_one] at h0 hf ⊢
    simp only at h0 hf ⊢
    rw [bodyE_eq] at h0 hf ⊢
    have hcl := c.toNat_lt
    by_cases h1 : (c.toNat : Int) = 1
    · rw [if_pos h1] at h0 hf ⊢
      simp only at h0 hf ⊢
      have hr0 : (rd3 (opN (c.toNat : Int)) r 0).2.2 = 0 := by
        rcases Decidable.em ((rd3 (opN (c.toNat : Int)) r 0).2.2 = 0) with hx | hx
        · exact hx
        · exfalso
          unfold valE at h0
          rw [numE_err _ _ 1 hx] at h0
          simp only at h0
          rw [if_neg hx] at h0
          exact hx h0
      obtain ⟨a1, a2, a3, a4⟩ := args_dec _ r (opN_cases _) hr0
      rw [hr0] at h0 hf ⊢
      obtain ⟨v1, v2, v3⟩ := val_dec (rd3 (opN (c.toNat : Int)) r 0).2.1 (by unfold errI; rw [hf, h0]; rfl)
      refine ⟨?_, ?_, v3⟩
      · unfold instOK argsOK vOK
        simp only
        rw [a1, a2, a3, if_pos h1, v1, h1]; rfl
      · unfold encI
        simp only
        rw [show UInt8.ofNat ((c.toNat : Int) % 256).toNat = c from bofc c, encC_eq _ h1]
        show c :: r = c :: (_ ++ _ ++ _)
        rw [List.append_assoc, ← v2, ← a4]
    · rw [if_neg h1] at h0 hf ⊢
      simp only at h0 hf ⊢
      have ho : opOK (c.toNat : Int) = true := by simpa using hf
      obtain ⟨a1, a2, a3, a4⟩ := args_dec _ r (opN_cases _) h0
      refine ⟨?_, ?_, by unfold i64 zV; simp only; omega⟩
      · unfold instOK argsOK vOK
        simp only
        rw [a1, a2, a3, if_neg h1, ho, zero_z]; rfl
      · unfold encI encC
        simp only
        rw [if_neg h1, List.append_nil, show UInt8.ofNat ((c.toNat : Int) % 256).toNat = c from bofc c]
        show c :: r = c :: (_ ++ _)
        rw [← a4]
theorem inst_short (x : In) (p t : List UInt8) (h : instOK x = true) (hp : p ≠ []) (ht : t ≠ []) (he : p ++ t = encI x) : errI (instE p 0) = 2 := by
  obtain ⟨ho, ⟨ha, hb, hc⟩, hv⟩ := ok_op x h
  cases p with
  | nil => exact absurd rfl hp
  | cons c p =>
    unfold encI at he
    rw [List.cons_append] at he
    injection he with e1 e2
    have hc0 : (c.toNat : Int) = x.f0 := by rw [e1]; exact b8_to _ (op_in ho)
    unfold instE
    rw [numE_one]
    simp only
    rw [hc0, bodyE_eq]
    have he2 : ∀ q : List UInt8, (rd3 (opN x.f0) p 0).2.2 = 2 → errI (valE q 2) = 2 := fun q _ => by unfold valE; rw [numE_err _ _ _ (by decide)]; rfl
    -- where it ends
    rcases List.append_eq_append_iff.1 e2 with ⟨q, hq1, hq2⟩ | ⟨q, hq1, hq2⟩
    · -- within the operands
      by_cases hqn : q = []
      · subst hqn
        rw [List.append_nil] at hq1
        rw [List.nil_append] at hq2
        -- just behind them
        obtain ⟨a1, a2, a3⟩ := args_enc (opN x.f0) x.f1 x.f2 x.f3 [] (opN_cases _) ha hb hc
        rw [List.append_nil, hq1] at a1 a2 a3
        by_cases h1 : x.f0 = 1
        · rw [if_pos h1, a3]; rfl
        · exfalso
          have : encC x = [] := by unfold encC; rw [if_neg h1]
          rw [this] at hq2
          exact ht hq2
      · have h2 := args_short (opN x.f0) x.f1 x.f2 x.f3 p q (opN_cases _) hqn hq1.symm
        by_cases h1 : x.f0 = 1
        · rw [if_pos h1, h2]; exact he2 _ h2
        · rw [if_neg h1, h2, ho]; rfl
    · obtain ⟨a1, a2, a3⟩ := args_enc (opN x.f0) x.f1 x.f2 x.f3 q (opN_cases _) ha hb hc
      rw [← hq1] at a1 a2 a3
      by_cases h1 : x.f0 = 1
      · rw [if_pos h1, a3]
        unfold vOK at hv
        rw [if_pos h1] at hv
        exact val_short x.f4 q t hv ht (by rw [← encC_eq x h1]; exact hq2.symm)
      · exfalso
        have : encC x = [] := by unfold encC; rw [if_neg h1]
        rw [this] at hq2
        exact ht (List.append_eq_nil_iff.1 hq2.symm).2
end Go.Proofs.YtljfichnlgfikaaDoor.XC
