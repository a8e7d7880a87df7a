/- Packed numbers and texts, written and read: what the printed functions of pack and of the document's answer for it compute, by lists of bytes. No program in sight but its printed functions. No conditions. -/
import Derived.Test.YtokjbncjapndgaaPAllx
import Derived.Lib.IndexBytes
namespace Go.Proofs.Ytokjbncjapndgaa.XP
open Go.RowKit Go.Proofs.Ytokjbncjapndgaa.XW Go.Proofs.Ytokjbncjapndgaa.PAll Go.Proofs.YtokjbncjapndgaaW.PrintWords Go.Proofs.YtokjbncjapndgaaW.PrintLast
/-- bytes as a string -/
abbrev B (l : List UInt8) : ByteArray := ⟨l.toArray⟩
theorem B_size (l : List UInt8) : (B l).size = l.length := by rw [Lib.size_eq]
theorem B_data (l : List UInt8) : (B l).data.toList = l := rfl
theorem B_list (l : List UInt8) : (B l).toList = l := by rw [Lib.toList_data]
theorem ext {a b : ByteArray} (h : a.data.toList = b.data.toList) : a = b := by
  cases a; cases b; simp only at h; rw [Array.toList_inj.1 h]
theorem of_B (s : ByteArray) : s = B s.data.toList := ext rfl
theorem B_extract (l : List UInt8) (a b : Nat) : (B l).extract a b = B ((l.drop a).take (b - a)) := ext (by rw [Lib.extract_data])
theorem B_head (l : List UInt8) (b : Nat) : (B l).extract 0 b = B (l.take b) := by rw [B_extract]; rfl
theorem B_tail (l : List UInt8) (a : Nat) : (B l).extract a (B l).size = B (l.drop a) := ext (by rw [Lib.extract_to_end])
theorem B_app (a b : List UInt8) : B a ++ B b = B (a ++ b) := ext (by simp)
theorem bytesOf_B (l : List UInt8) : bytesOf (B l) = bi l := rfl
theorem strB (l : List UInt8) : strOfNums (bi l) = B l := by
  unfold strOfNums bi; rw [List.map_map]; congr 2
  conv => rhs; rw [← List.map_id l]
  apply List.map_congr_left; intro c _; simp
theorem bback (x : Int) : ((UInt8.ofNat (x % 256).toNat).toNat : Int) = x % 256 := by
  have := Int.emod_nonneg x (show (256 : Int) ≠ 0 by decide)
  have := Int.emod_lt_of_pos x (show (0 : Int) < 256 by decide)
  rw [UInt8.toNat_ofNat']; omega
theorem bofc (c : UInt8) : UInt8.ofNat ((c.toNat : Int) % 256).toNat = c := by
  apply UInt8.toNat_inj.1
  have := bback (c.toNat : Int)
  have := c.toNat_lt
  omega
/-- a number's last w bytes, the greatest first -/
def beN : Nat → Int → List UInt8
  | 0, _ => []
  | w + 1, n => beN w (n / 256) ++ [UInt8.ofNat (n % 256).toNat]
theorem beN_len : ∀ w n, (beN w n).length = w := by
  intro w
  induction w with
  | zero => intro n; rfl
  | succ w ih => intro n; simp [beN, ih]
theorem beN_head : ∀ (w : Nat) (n : Int), beN (w + 1) n = UInt8.ofNat ((n / (256 ^ w : Nat)) % 256).toNat :: beN w n := by
  intro w
  induction w with
  | zero => intro n; simp [beN]
  | succ w ih =>
    intro n
    rw [show beN (w + 2) n = beN (w + 1) (n / 256) ++ [UInt8.ofNat (n % 256).toNat] from rfl, ih (n / 256)]
    rw [show n / 256 / ((256 ^ w : Nat) : Int) = n / ((256 ^ (w + 1) : Nat) : Int) by
      rw [Int.ediv_ediv_of_nonneg (by decide), Nat.pow_succ, Int.natCast_mul, Int.mul_comm]; rfl]
    rfl
theorem beNum_app (l : List UInt8) (c : UInt8) : beNum (l ++ [c]) = beStep (beNum l) c := beNum_snoc l c
theorem beNum_lt : ∀ (l : List UInt8), l.length ≤ 8 → beNum l < (256 ^ l.length : Nat) := by
  intro l
  induction h : l.length generalizing l with
  | zero => intro _; obtain rfl := List.eq_nil_of_length_eq_zero h; decide
  | succ n ih =>
    intro h8
    obtain ⟨l', c, rfl⟩ : ∃ l' c, l = l' ++ [c] := ⟨l.dropLast, l.getLast (by intro e; simp [e] at h), (List.dropLast_concat_getLast _).symm⟩
    have hl : l'.length = n := by simpa using h
    have h1 := ih l' hl (by omega)
    have h2 := c.toNat_lt
    have h3 := beNum_bd l'
    rw [beNum_app]; unfold beStep
    have h4 : ((256 ^ (n + 1) : Nat) : Int) = (256 ^ n : Nat) * 256 := by rw [Nat.pow_succ, Int.natCast_mul]; rfl
    omega
theorem pow8 (n : Nat) (h : n ≤ 7) : ((256 ^ n : Nat) : Int) ≤ 72057594037927936 := by
  have := Nat.pow_le_pow_right (n := 256) (by decide) h
  have e : 256 ^ 7 = 72057594037927936 := by decide
  omega
theorem beN_beNum : ∀ (l : List UInt8), l.length ≤ 8 → beN l.length (beNum l) = l := by
  intro l
  induction h : l.length generalizing l with
  | zero => intro _; obtain rfl := List.eq_nil_of_length_eq_zero h; rfl
  | succ n ih =>
    intro h8
    obtain ⟨l', c, rfl⟩ : ∃ l' c, l = l' ++ [c] := ⟨l.dropLast, l.getLast (by intro e; simp [e] at h), (List.dropLast_concat_getLast _).symm⟩
    have hl : l'.length = n := by simpa using h
    have h1 := ih l' hl (by omega)
    have h2 := c.toNat_lt
    have h3 := beNum_bd l'
    have h5 := beNum_lt l' (by omega)
    rw [hl] at h5
    have h6 := pow8 n (by omega)
    have e : beNum (l' ++ [c]) = beNum l' * 256 + c.toNat := by rw [beNum_app]; unfold beStep; omega
    rw [e]
    show beN n ((beNum l' * 256 + c.toNat) / 256) ++ [UInt8.ofNat ((beNum l' * 256 + c.toNat) % 256).toNat] = l' ++ [c]
    rw [show (beNum l' * 256 + (c.toNat : Int)) / 256 = beNum l' by omega, h1, show (beNum l' * 256 + (c.toNat : Int)) % 256 = (c.toNat : Int) % 256 by omega, bofc]
theorem beNum_beN : ∀ (w : Nat) (n : Int), w ≤ 8 → 0 ≤ n → n < (256 ^ w : Nat) → beNum (beN w n) = n := by
  intro w
  induction w with
  | zero => intro n _ h0 h1; simp at h1; obtain rfl : n = 0 := by omega
            rfl
  | succ w ih =>
    intro n hw h0 h1
    have h4 : ((256 ^ (w + 1) : Nat) : Int) = (256 ^ w : Nat) * 256 := by rw [Nat.pow_succ, Int.natCast_mul]; rfl
    have h6 := pow8 w (by omega)
    show beNum (beN w (n / 256) ++ [UInt8.ofNat (n % 256).toNat]) = n
    rw [beNum_app, ih (n / 256) (by omega) (by omega) (by omega)]
    unfold beStep
    have := bback n
    omega
theorem shr8 (n : Int) (j : Nat) (hj : j < 8) : shr .u64 n (8 * (j : Int)) = n / (256 ^ j : Nat) := by
  match j, hj with
  | 0, _ => exact (show n / 1 = n / 1 from rfl)
  | 1, _ => exact (show n / 256 = n / 256 from rfl)
  | 2, _ => exact (show n / 65536 = n / 65536 from rfl)
  | 3, _ => exact (show n / 16777216 = n / 16777216 from rfl)
  | 4, _ => exact (show n / 4294967296 = n / 4294967296 from rfl)
  | 5, _ => exact (show n / 1099511627776 = n / 1099511627776 from rfl)
  | 6, _ => exact (show n / 281474976710656 = n / 281474976710656 from rfl)
  | 7, _ => exact (show n / 72057594037927936 = n / 72057594037927936 from rfl)
theorem wide_in (w : Nat) (h : 1 ≤ w ∧ w ≤ 8) : mn (mx (w : Int) 1) 8 = w := by unfold mn mx; (repeat' split) <;> omega
theorem num_go (n : Int) : ∀ (j : Nat) (x : List Int) (k : Nat), j ≤ 8 → x.length + j < 140737488355328 → pack_Num.l0 (k + j + 1) x n ((j : Int) - 1) = some (x ++ bi (beN j n)) := by
  intro j
  induction j with
  | zero => intro x k _ _; simp only [pack_Num.l0]; rw [if_neg (by omega)]; simp [beN, bi]
  | succ j ih =>
    intro x k hj hx
    rw [show k + (j + 1) + 1 = (k + j + 1) + 1 by omega]
    generalize hK : k + j + 1 = K
    simp only [pack_Num.l0]
    subst hK
    rw [show (((j + 1 : Nat) : Int) - 1) = (j : Int) by omega]
    rw [if_pos (by omega), IntWalk.wrap64_in (8 * (j : Int)) ⟨by omega, by omega⟩, if_pos (by omega), if_pos (by omega), IntWalk.wrap64_in ((j : Int) - 1) ⟨by omega, by omega⟩, shr8 n j (by omega)]
    rw [ih _ k (by omega) (by rw [List.length_append, List.length_singleton]; omega), beN_head]
    have : bi (UInt8.ofNat ((n / (256 ^ j : Nat)) % 256).toNat :: beN j n) = (n / (256 ^ j : Nat)) % 256 :: bi (beN j n) := by
      unfold bi; rw [List.map_cons, bback]
    rw [this]; simp
theorem pnum (k : Nat) (x : List Int) (n : Int) (w : Nat) (hw : 1 ≤ w ∧ w ≤ 8) (hx : x.length + 8 < 140737488355328) : pack_Num.f (k + 9) x n w = some (x ++ bi (beN w n)) := by
  unfold pack_Num.f pack_wide.f
  rw [Option.bind_some, wide_in w hw, IntWalk.wrap64_in ((w : Int) - 1) ⟨by omega, by omega⟩]
  rw [show k + 9 = (k + 8 - w) + w + 1 by omega]
  exact num_go n w x _ hw.2 (by omega)
theorem pstr (x : List Int) (s : List UInt8) (hx : x.length + 256 < 140737488355328) : pack_Str.f x (B s) = some (x ++ bi (UInt8.ofNat (min s.length 255) :: s.take 255)) := by
  unfold pack_Str.f
  have hm : mn ((B s).size : Int) 255 = ((min s.length 255 : Nat) : Int) := by rw [B_size]; unfold mn; split <;> omega
  rw [hm, if_pos (by omega), if_pos (by rw [B_size]; omega), if_pos (by omega), Option.bind_some, Int.toNat_natCast, B_head]
  have hl : (B (s.take (min s.length 255))).size = min s.length 255 := by rw [B_size, List.length_take]; omega
  rw [if_pos (by rw [hl, List.length_append, List.length_singleton]; omega), hl, bytesOf_B]
  have ht : s.take (min s.length 255) = s.take 255 := by
    rcases Nat.le_total s.length 255 with h | h
    · rw [Nat.min_eq_left h, List.take_of_length_le (Nat.le_refl _), List.take_of_length_le h]
    · rw [Nat.min_eq_right h]
  rw [ht]
  have hb : (((min s.length 255 : Nat) : Int) % 256) = ((UInt8.ofNat (min s.length 255)).toNat : Int) := by rw [UInt8.toNat_ofNat']; omega
  rw [hb]
  simp [bi]
theorem beN1 (n : Nat) : beN 1 (n : Int) = [UInt8.ofNat n] := by
  show [] ++ [UInt8.ofNat ((n : Int) % 256).toNat] = [UInt8.ofNat n]
  rw [List.nil_append]
  congr 1
  apply UInt8.toNat_inj.1
  rw [UInt8.toNat_ofNat', UInt8.toNat_ofNat']; omega
/-! ## what readers read: of the bytes to come l and the error e -/
def numE (l : List UInt8) (e : Int) (w : Nat) : Int × List UInt8 × Int := if e = 0 then (if l.length < w then (0, l, 2) else (beNum (l.take w), l.drop w, 0)) else (0, l, e)
def strE (l : List UInt8) (e : Int) (m : Nat) : List UInt8 × List UInt8 × Int :=
  if e = 0 then (match l with | [] => ([], l, 2) | c :: r => if m < c.toNat then ([], l, 3) else if r.length < c.toNat then ([], l, 2) else (r.take c.toNat, r.drop c.toNat, 0)) else ([], l, e)
def rawE (l : List UInt8) (e : Int) (n : Nat) : List UInt8 × List UInt8 × Int := if e = 0 then (if l.length < n then ([], l, 2) else (l.take n, l.drop n, 0)) else ([], l, e)
def doneE (l : List UInt8) (e : Int) : Int := if e = 0 then (if l = [] then 0 else 5) else e
theorem numE_suf (l : List UInt8) (e : Int) (w : Nat) : ∃ p, l = p ++ (numE l e w).2.1 := by
  unfold numE; (repeat' split)
  · exact ⟨[], rfl⟩
  · exact ⟨l.take w, (List.take_append_drop w l).symm⟩
  · exact ⟨[], rfl⟩
theorem rawE_suf (l : List UInt8) (e : Int) (w : Nat) : ∃ p, l = p ++ (rawE l e w).2.1 := by
  unfold rawE; (repeat' split)
  · exact ⟨[], rfl⟩
  · exact ⟨l.take w, (List.take_append_drop w l).symm⟩
  · exact ⟨[], rfl⟩
theorem strE_suf (l : List UInt8) (e : Int) (m : Nat) : ∃ p, l = p ++ (strE l e m).2.1 := by
  unfold strE
  split
  · cases l with
    | nil => exact ⟨[], rfl⟩
    | cons c r =>
      show ∃ p, c :: r = p ++ (if m < c.toNat then ([], c :: r, (3 : Int)) else if r.length < c.toNat then ([], c :: r, 2) else (r.take c.toNat, r.drop c.toNat, 0)).2.1
      split
      · exact ⟨[], rfl⟩
      · split
        · exact ⟨[], rfl⟩
        · exact ⟨c :: r.take c.toNat, by simp⟩
  · exact ⟨[], rfl⟩
theorem numE_bd (l : List UInt8) (e : Int) (w : Nat) (hw : w ≤ 8) : 0 ≤ (numE l e w).1 ∧ (numE l e w).1 < (256 ^ w : Nat) := by
  have hp : (0 : Int) < (256 ^ w : Nat) := by exact_mod_cast Nat.pow_pos (by decide)
  unfold numE; (repeat' split)
  · exact ⟨Int.le_refl _, hp⟩
  · refine ⟨(beNum_bd _).1, ?_⟩
    have h1 : (l.take w).length = w := by rw [List.length_take]; omega
    have := beNum_lt (l.take w) (by omega)
    rw [h1] at this; exact this
  · exact ⟨Int.le_refl _, hp⟩
theorem bt_cons (c : UInt8) (r : List UInt8) : bt (B (c :: r)) 0 = (c.toNat : Int) := by
  unfold bt; rw [dif_pos (by rw [B_size]; simp)]; rfl
end Go.Proofs.Ytokjbncjapndgaa.XP
