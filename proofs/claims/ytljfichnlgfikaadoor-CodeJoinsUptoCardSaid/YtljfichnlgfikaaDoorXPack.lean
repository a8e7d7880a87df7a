/- Packed numbers and texts, written and read: what the printed functions of pack and of the document's answer for it compute, by lists of bytes. No program in sight but its printed functions. No conditions. -/
import Derived.Test.YtljfichnlgfikaaDoorPAllx
import Derived.Lib.IndexBytes
namespace Go.Proofs.YtljfichnlgfikaaDoor.XP
open Go.RowKit Go.Proofs.YtljfichnlgfikaaDoor.XW Go.Proofs.YtljfichnlgfikaaDoor.PAll Go.Proofs.YtljfichnlgfikaaDoorW.PrintWords Go.Proofs.YtljfichnlgfikaaDoorW.PrintLast
/-- bytes as a string -/
abbrev B (l : List UInt8) : ByteArray := ⟨l.toArray⟩
theorem B_size (l : List UInt8) : (B l).size = l.length := by rw [Lib.size_eq]
theorem B_data (l : List UInt8) : (B l).data.toList = l := rfl
theorem B_list (l : List UInt8) : (B l).toList = l := by rw [Lib.toList_data]
theorem ext {a b : ByteArray} (h : a.data.toList = b.data.toList) : a = b := by
  cases a; cases b; simp only at h; rw [Array.toList_inj.1 h]
theorem of_B (s : ByteArray) : s = B s.data.toList := ext rfl
theorem B_extract (l : List UInt8) (a b : Nat) : (B l).extract a b = B ((l.drop a).take (b - a)) := ext (by rw [Lib.extract_data])
theorem B_head (l : List UInt8) (b : Nat) : (B l).extract 0 b = B (l.take b) := by rw [B_extract]; rfl
theorem B_tail (l : List UInt8) (a : Nat) : (B l).extract a (B l).size = B (l.drop a) := ext (by rw [Lib.extract_to_end])
theorem B_app (a b : List UInt8) : B a ++ B b = B (a ++ b) := ext (by simp)
theorem bytesOf_B (l : List UInt8) : bytesOf (B l) = bi l := rfl
theorem strB (l : List UInt8) : strOfNums (bi l) = B l := by
  unfold strOfNums bi; rw [List.map_map]; congr 2
  conv => rhs; rw [← List.map_id l]
  apply List.map_congr_left; intro c _; simp
theorem bback (x : Int) : ((UInt8.ofNat (x % 256).toNat).toNat : Int) = x % 256 := by
  have := Int.emod_nonneg x (show (256 : Int) ≠ 0 by decide)
  have := Int.emod_lt_of_pos x (show (0 : Int) < 256 by decide)
  rw [UInt8.toNat_ofNat']; omega
theorem bofc (c : UInt8) : UInt8.ofNat ((c.toNat : Int) % 256).toNat = c := by
  apply UInt8.toNat_inj.1
  have := bback (c.toNat : Int)
  have := c.toNat_lt
  omega
/-- a number's last w bytes, the greatest first -/
def beN : Nat → Int → List UInt8
  | 0, _ => []
  | w + 1, n => beN w (n / 256) ++ [UInt8.ofNat (n % 256).toNat]
theorem beN_len : ∀ w n, (beN w n).length = w := by
  intro w
  induction w with
  | zero => intro n; rfl
  | succ w ih => intro n; simp [beN, ih]
theorem beN_head : ∀ (w : Nat) (n : Int), beN (w + 1) n = UInt8.ofNat ((n / (256 ^ w : Nat)) % 256).toNat :: beN w n := by
  intro w
  induction w with
  | zero => intro n; simp [beN]
  | succ w ih =>
    intro n
    rw [show beN (w + 2) n = beN (w + 1) (n / 256) ++ [UInt8.ofNat (n % 256).toNat] from rfl, ih (n / 256)]
    rw [show n / 256 / ((256 ^ w : Nat) : Int) = n / ((256 ^ (w + 1) : Nat) : Int) by
      rw [Int.ediv_ediv_of_nonneg (by decide), Nat.pow_succ, Int.natCast_mul, Int.mul_comm]; rfl]
    rfl
theorem beNum_app (l : List UInt8) (c : UInt8) : beNum (l ++ [c]) = beStep (beNum l) c := beNum_snoc l c
theorem beNum_lt : ∀ (l : List UInt8), l.length ≤ 8 → beNum l < (256 ^ l.length : Nat) := by
  intro l
  induction h : l.length generalizing l with
  | zero => intro _; obtain rfl := List.eq_nil_of_length_eq_zero h; decide
  | succ n ih =>
    intro h8
    obtain ⟨l', c, rfl⟩ : ∃ l' c, l = l' ++ [c] := ⟨l.dropLast, l.getLast (by intro e; simp [e] at h), (List.dropLast_concat_getLast _).symm⟩
    have hl : l'.length = n := by simpa using h
    have h1 := ih l' hl (by omega)
    have h2 := c.toNat_lt
    have h3 := beNum_bd l'
    rw [beNum_app]; unfold beStep
    have h4 : ((256 ^ (n + 1) : Nat) : Int) = (256 ^ n : Nat) * 256 := by rw [Nat.pow_succ, Int.natCast_mul]; rfl
    omega
theorem pow8 (n : Nat) (h : n ≤ 7) : ((256 ^ n : Nat) : Int) ≤ 72057594037927936 := by
  have := Nat.pow_le_pow_right (n := 256) (by decide) h
  have e : 256 ^ 7 = 72057594037927936 := by decide
  omega
theorem beN_beNum : ∀ (l : List UInt8), l.length ≤ 8 → beN l.length (beNum l) = l := by
  intro l
  induction h : l.length generalizing l with
  | zero => intro _; obtain rfl := List.eq_nil_of_length_eq_zero h; rfl
  | succ n ih =>
    intro h8
    obtain ⟨l', c, rfl⟩ : ∃ l' c, l = l' ++ [c] := ⟨l.dropLast, l.getLast (by intro e; simp [e] at h), (List.dropLast_concat_getLast _).symm⟩
    have hl : l'.length = n := by simpa using h
    have h1 := ih l' hl (by omega)
    have h2 := c.toNat_lt
    have h3 := beNum_bd l'
    have h5 := beNum_lt l' (by omega)
    rw [hl] at h5
    have h6 := pow8 n (by omega)
    have e : beNum (l' ++ [c]) = beNum l' * 256 + c.toNat := by rw [beNum_app]; unfold beStep; omega
    rw [e]
    show beN n ((beNum l' * 256 + c.toNat) / 256) ++ [UInt8.ofNat ((beNum l' * 256 + c.toNat) % 256).toNat] = l' ++ [c]
    rw [show (beNum l' * 256 + (c.toNat : Int)) / 256 = beNum l' by omega, h1, show (beNum l' * 256 + (c.toNat : Int)) % 256 = (c.toNat : Int) % 256 by omega, bofc]
theorem beNum_beN : ∀ (w : Nat) (n : Int), w ≤ 8 → 0 ≤ n → n < (256 ^ w : Nat) → beNum (beN w n) = n := by
  intro w
  induction w with
  | zero => intro n _ h0 h1; simp at h1; obtain rfl : n = 0 := by omega
            rfl
  | succ w ih =>
    intro n hw h0 h1
    have h4 : ((256 ^ (w + 1) : Nat) : Int) = (256 ^ w : Nat) * 256 := by rw [Nat.pow_succ, Int.natCast_mul]; rfl
    have h6 := pow8 w (by omega)
    show beNum (beN w (n / 256) ++ [UInt8.ofNat (n % 256).toNat]) = n
    rw [beNum_app, ih (n / 256) (by omega) (by omega) (by omega)]
    unfold beStep
    have := bback n
    omega
theorem shr8 (n : Int) (j : Nat) (hj : j < 8) : shr .u64 n (8 * (j : Int)) = n / (256 ^ j : Nat) := by
  match j, hj with
  | 0, _ => exact (show n / 1 = n / 1 from rfl)
  | 1, _ => exact (show n / 256 = n / 256 from rfl)
  | 2, _ => exact (show n / 65536 = n / 65536 from rfl)
  | 3, _ => exact (show n / 16777216 = n / 16777216 from rfl)
  | 4, _ => exact (show n / 4294967296 = n / 4294967296 from rfl)
  | 5, _ => exact (show n / 1099511627776 = n / 1099511627776 from rfl)
  | 6, _ => exact (show n / 281474976710656 = n / 281474976710656 from rfl)
  | 7, _ => exact (show n / 72057594037927936 = n / 72057594037927936 from rfl)
theorem wide_in (w : Nat) (h : 1 ≤ w ∧ w ≤ 8) : mn (mx (w : Int) 1) 8 = w := by unfold mn mx; (repeat' split) <;> omega
theorem num_go (n : Int) : ∀ (j : Nat) (x : List Int) (k : Nat), j ≤ 8 → x.length + j < 140737488355328 → pack_Num.l0 (k + j + 1) x n ((j : Int) - 1) = some (x ++ bi (beN j n)) := by
  intro j
  induction j with
  | zero => intro x k _ _; simp only [pack_Num.l0]; rw [if_neg (by omega)]; simp [beN, bi]
  | succ j ih =>
    intro x k hj hx
    rw [show k + (j + 1) + 1 = (k + j + 1) + 1 by omega]
    generalize hK : k + j + 1 = K
    simp only [pack_Num.l0]
    subst hK
    rw [show (((j + 1 : Nat) : Int) - 1) = (j : Int) by omega]
    rw [if_pos (by omega), IntWalk.wrap64_in (8 * (j : Int)) ⟨by omega, by omega⟩, if_pos (by omega), if_pos (by omega), IntWalk.wrap64_in ((j : Int) - 1) ⟨by omega, by omega⟩, shr8 n j (by omega)]
    rw [ih _ k (by omega) (by rw [List.length_append, List.length_singleton]; omega), beN_head]
    have : bi (UInt8.ofNat ((n / (256 ^ j : Nat)) % 256).toNat :: beN j n) = (n / (256 ^ j : Nat)) % 256 :: bi (beN j n) := by
      unfold bi; rw [List.map_cons, bback]
    rw [this]; simp
theorem pnum (k : Nat) (x : List Int) (n : Int) (w : Nat) (hw : 1 ≤ w ∧ w ≤ 8) (hx : x.length + 8 < 140737488355328) : pack_Num.f (k + 9) x n w = some (x ++ bi (beN w n)) := by
  unfold pack_Num.f pack_wide.f
  rw [Option.bind_some, wide_in w hw, IntWalk.wrap64_in ((w : Int) - 1) ⟨by omega, by omega⟩]
  rw [show k + 9 = (k + 8 - w) + w + 1 by omega]
  exact num_go n w x _ hw.2 (by omega)
theorem pstr (x : List Int) (s : List UInt8) (hx : x.length + 256 < 140737488355328) : pack_Str.f x (B s) = some (x ++ bi (UInt8.ofNat (min s.length 255) :: s.take 255)) := by
  unfold pack_Str.f
  have hm : mn ((B s).size : Int) 255 = ((min s.length 255 : Nat) : Int) := by rw [B_size]; unfold mn; split <;> omega
  rw [hm, if_pos (by omega), if_pos (by rw [B_size]; omega), if_pos (by omega), Option.bind_some, Int.toNat_natCast, B_head]
  have hl : (B (s.take (min s.length 255))).size = min s.length 255 := by rw [B_size, List.length_take]; omega
  rw [if_pos (by rw [hl, List.length_append, List.length_singleton]; omega), hl, bytesOf_B]
  have ht : s.take (min s.length 255) = s.take 255 := by
    rcases Nat.le_total s.length 255 with h | h
    · rw [Nat.min_eq_left h, List.take_of_length_le (Nat.le_refl _), List.take_of_length_le h]
    · rw [Nat.min_eq_right h]
  rw [ht]
  have hb : (((min s.length 255 : Nat) : Int) % 256) = ((UInt8.ofNat (min s.length 255)).toNat : Int) := by rw [UInt8.toNat_ofNat']; omega
  rw [hb]
  simp [bi]
theorem beN1 (n : Nat) : beN 1 (n : Int) = [UInt8.ofNat n] := by
  show [] ++ [UInt8.ofNat ((n : Int) % 256).toNat] = [UInt8.ofNat n]
  rw [List.nil_append]
  congr 1
  apply UInt8.toNat_inj.1
  rw [UInt8.toNat_ofNat', UInt8.toNat_ofNat']; omega
theorem rnumw_go : ∀ (j : Nat) (n : Int) (xs : List Int) (k : Nat), 0 ≤ n → n < 18446744073709551616 → j ≤ xs.length → xs.length ≤ 8 →
    factotumref01_Num.l0 (k + j + 1) n xs ((j : Int) - 1) = some (strOfNums (bi (beN j n) ++ xs.drop j)) := by
  intro j
  induction j with
  | zero => intro n xs k _ _ _ _; simp only [factotumref01_Num.l0]; rw [if_neg (by omega)]; simp [beN, bi]
  | succ j ih =>
    intro n xs k h0 h1 hj hl
    rw [show k + (j + 1) + 1 = (k + j + 1) + 1 by omega]
    generalize hK : k + j + 1 = K
    simp only [factotumref01_Num.l0]
    subst hK
    rw [show (((j + 1 : Nat) : Int) - 1) = (j : Int) by omega]
    rw [if_pos (by omega), if_pos (by omega), if_pos (by omega), IntWalk.wrap64_in ((j : Int) - 1) ⟨by omega, by omega⟩]
    rw [Int.tdiv_eq_ediv_of_nonneg h0, Int.tmod_eq_emod_of_nonneg h0, Int.toNat_natCast, u64_in (n / 256) (by omega) (by omega), show n % 256 % 256 = n % 256 by omega]
    rw [ih (n / 256) (xs.set j (n % 256)) k (by omega) (by omega) (by rw [List.length_set]; omega) (by rw [List.length_set]; omega)]
    have hd : (xs.set j (n % 256)).drop j = n % 256 :: xs.drop (j + 1) := by
      rw [List.drop_eq_getElem_cons (by rw [List.length_set]; omega), List.getElem_set_self, List.drop_set_of_lt (by omega)]
    rw [hd]
    show some (strOfNums _) = some (strOfNums (bi (beN j (n / 256) ++ [UInt8.ofNat (n % 256).toNat]) ++ xs.drop (j + 1)))
    congr 2
    rw [bi_app, show bi [UInt8.ofNat (n % 256).toNat] = [n % 256] from by unfold bi; rw [List.map_cons, bback]; rfl]
    simp
theorem rnumw (k : Nat) (n : Int) (w : Nat) (hw : 1 ≤ w ∧ w ≤ 8) (h0 : 0 ≤ n) (h1 : n < 18446744073709551616) : factotumref01_Num.f (k + 9) n w = some (B (beN w n)) := by
  unfold factotumref01_Num.f factotumref01_size.f
  rw [Option.bind_some, wide_in w hw, if_pos (by omega), Int.toNat_natCast, if_pos (by omega), IntWalk.wrap64_in ((w : Int) - 1) ⟨by omega, by omega⟩]
  rw [show k + 9 = (k + 8 - w) + w + 1 by omega, rnumw_go w n _ _ h0 h1 (by rw [List.length_replicate]; omega) (by rw [List.length_replicate]; omega)]
  rw [List.drop_of_length_le (by rw [List.length_replicate]; omega), List.append_nil, strB]
theorem rstrw (k : Nat) (s : List UInt8) (hs : s.length < 140737488355328) : factotumref01_Str.f (k + 9) (B s) = some (B (UInt8.ofNat (min s.length 255) :: s.take 255)) := by
  unfold factotumref01_Str.f
  have hm : mn ((B s).size : Int) 255 = ((min s.length 255 : Nat) : Int) := by rw [B_size]; unfold mn; split <;> omega
  rw [hm, show (1 : Int) = ((1 : Nat) : Int) from rfl, rnumw k _ 1 (by omega) (by omega) (by omega), Option.bind_some, if_pos (by omega), if_pos (by rw [B_size]; omega), Int.toNat_natCast, B_head]
  have ht : s.take (min s.length 255) = s.take 255 := by
    rcases Nat.le_total s.length 255 with h | h
    · rw [Nat.min_eq_left h, List.take_of_length_le (Nat.le_refl _), List.take_of_length_le h]
    · rw [Nat.min_eq_right h]
  have hl : (s.take 255).length ≤ 255 := by rw [List.length_take]; omega
  rw [ht, beN1, if_pos (by rw [B_size, B_size, List.length_singleton]; omega), B_app]
  rfl
/-! ## what readers read: of the bytes to come l and the error e -/
def numE (l : List UInt8) (e : Int) (w : Nat) : Int × List UInt8 × Int := if e = 0 then (if l.length < w then (0, l, 2) else (beNum (l.take w), l.drop w, 0)) else (0, l, e)
def strE (l : List UInt8) (e : Int) (m : Nat) : List UInt8 × List UInt8 × Int :=
  if e = 0 then (match l with | [] => ([], l, 2) | c :: r => if m < c.toNat then ([], l, 3) else if r.length < c.toNat then ([], l, 2) else (r.take c.toNat, r.drop c.toNat, 0)) else ([], l, e)
def rawE (l : List UInt8) (e : Int) (n : Nat) : List UInt8 × List UInt8 × Int := if e = 0 then (if l.length < n then ([], l, 2) else (l.take n, l.drop n, 0)) else ([], l, e)
def doneE (l : List UInt8) (e : Int) : Int := if e = 0 then (if l = [] then 0 else 5) else e
theorem numE_suf (l : List UInt8) (e : Int) (w : Nat) : ∃ p, l = p ++ (numE l e w).2.1 := by
  unfold numE; (repeat' split)
  · exact ⟨[], rfl⟩
  · exact ⟨l.take w, (List.take_append_drop w l).symm⟩
  · exact ⟨[], rfl⟩
theorem rawE_suf (l : List UInt8) (e : Int) (w : Nat) : ∃ p, l = p ++ (rawE l e w).2.1 := by
  unfold rawE; (repeat' split)
  · exact ⟨[], rfl⟩
  · exact ⟨l.take w, (List.take_append_drop w l).symm⟩
  · exact ⟨[], rfl⟩
theorem strE_suf (l : List UInt8) (e : Int) (m : Nat) : ∃ p, l = p ++ (strE l e m).2.1 := by
  unfold strE
  split
  · cases l with
    | nil => exact ⟨[], rfl⟩
    | cons c r =>
      show ∃ p, c :: r = p ++ (if m < c.toNat then ([], c :: r, (3 : Int)) else if r.length < c.toNat then ([], c :: r, 2) else (r.take c.toNat, r.drop c.toNat, 0)).2.1
      split
      · exact ⟨[], rfl⟩
      · split
        · exact ⟨[], rfl⟩
        · exact ⟨c :: r.take c.toNat, by simp⟩
  · exact ⟨[], rfl⟩
theorem numE_bd (l : List UInt8) (e : Int) (w : Nat) (hw : w ≤ 8) : 0 ≤ (numE l e w).1 ∧ (numE l e w).1 < (256 ^ w : Nat) := by
  have hp : (0 : Int) < (256 ^ w : Nat) := by exact_mod_cast Nat.pow_pos (by decide)
  unfold numE; (repeat' split)
  · exact ⟨Int.le_refl _, hp⟩
  · refine ⟨(beNum_bd _).1, ?_⟩
    have h1 : (l.take w).length = w := by rw [List.length_take]; omega
    have := beNum_lt (l.take w) (by omega)
    rw [h1] at this; exact this
  · exact ⟨Int.le_refl _, hp⟩
theorem take_go (l : List UInt8) (e : Int) (n : Nat) : pack_Reader_take.f (B l) e n = some (B (rawE l e n).1, decide (e = 0 ∧ n ≤ l.length), B (rawE l e n).2.1, (rawE l e n).2.2) := by
  unfold pack_Reader_take.f rawE
  by_cases he : e = 0
  · subst he
    rw [if_pos rfl, if_pos rfl]
    by_cases h : l.length < n
    · rw [if_pos (by rw [B_size]; omega), if_pos h, decide_eq_false (by omega)]
    · rw [if_neg (by rw [B_size]; omega), if_pos (by omega), if_pos (by rw [B_size]; omega), if_neg h, decide_eq_true ⟨rfl, by omega⟩, Int.toNat_natCast, B_head, B_tail]
  · rw [if_neg he, if_neg he, decide_eq_false (by simp [he])]
theorem pRnum (l : List UInt8) (e : Int) (w : Nat) (hw : 1 ≤ w ∧ w ≤ 8) : pack_Reader_Num.f (B l) e w = some ((numE l e w).1, B (numE l e w).2.1, (numE l e w).2.2) := by
  unfold pack_Reader_Num.f pack_wide.f
  rw [Option.bind_some, wide_in w hw, take_go, Option.bind_some]
  unfold rawE numE
  by_cases he : e = 0
  · rw [if_pos he, if_pos he]; split <;> rfl
  · rw [if_neg he, if_neg he]; rfl
theorem bt_cons (c : UInt8) (r : List UInt8) : bt (B (c :: r)) 0 = (c.toNat : Int) := by
  unfold bt; rw [dif_pos (by rw [B_size]; simp)]; rfl
theorem pRstr (l : List UInt8) (e : Int) (m : Nat) : pack_Reader_Str.f (B l) e m = some (B (strE l e m).1, B (strE l e m).2.1, (strE l e m).2.2) := by
  unfold pack_Reader_Str.f strE
  by_cases he : e = 0
  · subst he
    rw [if_pos rfl, if_pos rfl, show (1 : Int) = ((1 : Nat) : Int) from rfl, take_go, Option.bind_some]
    cases l with
    | nil => rfl
    | cons c r =>
      have hc := c.toNat_lt
      have h1 : rawE (c :: r) 0 1 = ([c], r, 0) := by unfold rawE; simp
      rw [h1]
      simp only [List.length_cons]
      rw [if_pos (decide_eq_true ⟨trivial, by omega⟩), if_pos (by rw [B_size]; simp), bt_cons, IntWalk.wrap64_in (c.toNat : Int) ⟨by omega, by omega⟩]
      by_cases h2 : m < c.toNat
      · rw [if_pos (by omega), if_pos h2]
      · rw [if_neg (by omega), if_neg h2, take_go, Option.bind_some]
        unfold rawE
        by_cases h3 : r.length < c.toNat
        · simp [h3]
        · simp [h3]
  · rw [if_neg he, if_neg he]
/-! ## the document's readers: of the whole S and of what is to come, where that is S's end -/
def pos (S : ByteArray) (l : List UInt8) : Int := (S.size : Int) - l.length
def Suf (S : ByteArray) (l : List UInt8) : Prop := ∃ p, S.data.toList = p ++ l
theorem Suf.size {S : ByteArray} {l : List UInt8} (h : Suf S l) : l.length ≤ S.size := by obtain ⟨p, hp⟩ := h; rw [Lib.size_eq, hp, List.length_append]; omega
theorem Suf.drop {S : ByteArray} {l : List UInt8} (h : Suf S l) : S.data.toList.drop (S.size - l.length) = l := by
  obtain ⟨p, hp⟩ := h
  rw [Lib.size_eq, hp, List.length_append, Nat.add_sub_cancel, List.drop_left]
theorem Suf.step {S : ByteArray} {l l' : List UInt8} (h : Suf S l) (h' : ∃ p, l = p ++ l') : Suf S l' := by
  obtain ⟨p, hp⟩ := h; obtain ⟨q, hq⟩ := h'
  exact ⟨p ++ q, by rw [hp, hq, List.append_assoc]⟩
theorem Suf.whole (S : ByteArray) : Suf S S.data.toList := ⟨[], rfl⟩
theorem pos_whole (S : ByteArray) : pos S S.data.toList = 0 := by unfold pos; rw [Lib.size_eq]; omega
theorem pos_nat {S : ByteArray} {l : List UInt8} (h : Suf S l) : pos S l = ((S.size - l.length : Nat) : Int) := by have := h.size; unfold pos; omega
theorem rleft {S : ByteArray} {l : List UInt8} (e : Int) (hS : S.size < 140737488355328) (h : Suf S l) : factotumref01_Reader_Left.f S (pos S l) e = some ((l.length : Int), S, pos S l, e) := by
  have := h.size
  unfold factotumref01_Reader_Left.f
  rw [IntWalk.wrap64_in _ ⟨by unfold pos; omega, by unfold pos; omega⟩, show (S.size : Int) - pos S l = l.length by unfold pos; omega]
theorem S_cut {S : ByteArray} {l : List UInt8} (h : Suf S l) (a b : Nat) : S.extract (S.size - l.length + a) (S.size - l.length + b) = B ((l.drop a).take (b - a)) := by
  refine ext ?_
  rw [Lib.extract_data, B_data, ← List.drop_drop, h.drop]; congr 1; omega
theorem rraw {S : ByteArray} {l : List UInt8} (e : Int) (n : Nat) (hS : S.size < 140737488355328) (hn : n < 140737488355328) (h : Suf S l) :
    factotumref01_Reader_Raw.f S (pos S l) e n = some (B (rawE l e n).1, S, pos S (rawE l e n).2.1, (rawE l e n).2.2) := by
  have hsz := h.size
  unfold factotumref01_Reader_Raw.f rawE
  have hx : mx (n : Int) 0 = n := by unfold mx; split <;> omega
  by_cases he : e = 0
  · subst he
    rw [if_pos rfl, if_pos rfl, rleft 0 hS h, Option.bind_some, hx]
    by_cases h2 : l.length < n
    · rw [if_pos (by simp only; omega), if_pos h2]
    · rw [if_neg (by simp only; omega), if_neg h2]
      simp only
      rw [IntWalk.wrap64_in (pos S l + (n : Int)) ⟨by unfold pos; omega, by unfold pos; omega⟩]
      rw [IntWalk.wrap64_in (pos S l + (n : Int) - (n : Int)) ⟨by unfold pos; omega, by unfold pos; omega⟩]
      rw [if_pos (by unfold pos; omega), if_pos (by omega), if_pos (by unfold pos; omega)]
      have e1 : (pos S l + (n : Int) - (n : Int)).toNat = S.size - l.length + 0 := by unfold pos; omega
      have e2 : (pos S l + (n : Int)).toNat = S.size - l.length + n := by unfold pos; omega
      rw [e1, e2, S_cut h, Nat.sub_zero, List.drop_zero]
      have e3 : pos S l + (n : Int) = pos S (l.drop n) := by unfold pos; rw [List.length_drop]; omega
      rw [e3]
  · rw [if_neg he, if_neg he]
theorem btn (s : ByteArray) (i : Nat) (c : UInt8) (r : List UInt8) (h : s.data.toList.drop i = c :: r) : i < s.size ∧ bt s (i : Int) = (c.toNat : Int) ∧ s.data.toList.drop (i + 1) = r := by
  have hi : i < s.size := by
    rw [Lib.size_eq]
    rcases Nat.lt_or_ge i s.data.toList.length with h2 | h2
    · exact h2
    · rw [List.drop_eq_nil_of_le h2] at h; cases h
  have hi' : i < s.data.toList.length := by rw [← Lib.size_eq]; exact hi
  rw [List.drop_eq_getElem_cons hi'] at h
  injection h with h1 h2
  refine ⟨hi, ?_, h2⟩
  unfold bt
  rw [dif_pos (by rw [Int.toNat_natCast]; exact hi)]
  simp only [Int.toNat_natCast]
  rw [← h1]; rfl
theorem rnumr_go (s s1 : ByteArray) (x1 x2 : Int) (hs : s.size ≤ 140737488355328) : ∀ (m i k : Nat), i + m = s.size →
    factotumref01_Reader_Num.l0 (k + m + 1) s (beNum (s.data.toList.take i)) (i : Int) s1 x1 x2 = some (beNum s.data.toList, s1, x1, x2) := by
  intro m
  induction m with
  | zero =>
    intro i k hi
    simp only [factotumref01_Reader_Num.l0]
    rw [if_neg (by omega), List.take_of_length_le (by rw [← Lib.size_eq]; omega)]
  | succ m ih =>
    intro i k hi
    have hlt : i < s.size := by omega
    have hi' : i < s.data.toList.length := by rw [← Lib.size_eq]; exact hlt
    obtain ⟨c, r, hcr⟩ : ∃ c r, s.data.toList.drop i = c :: r := ⟨_, _, List.drop_eq_getElem_cons hi'⟩
    obtain ⟨_, hc, hr⟩ := btn s i c r hcr
    have hcc : s.data.toList[i] = c := by rw [List.drop_eq_getElem_cons hi'] at hcr; injection hcr
    rw [show k + (m + 1) + 1 = (k + m + 1) + 1 by omega]
    generalize hK : k + m + 1 = K
    simp only [factotumref01_Reader_Num.l0]
    subst hK
    rw [if_pos (by omega), if_pos (by omega), hc, IntWalk.wrap64_in _ ⟨by omega, by omega⟩]
    have hb := beNum_bd (s.data.toList.take i)
    have hn : IntKind.u64.wrap (IntKind.u64.wrap (256 * beNum (s.data.toList.take i)) + IntKind.u64.wrap (c.toNat : Int)) = beNum (s.data.toList.take (i + 1)) := by
      rw [List.take_succ_eq_append_getElem hi', beNum_app, hcc]
      have := c.toNat_lt
      unfold beStep
      simp only [IntKind.wrap, IntKind.bits, IntKind.signed]
      simp; omega
    rw [hn]
    exact ih (i + 1) k (by omega)
theorem rRnum {S : ByteArray} {l : List UInt8} (k : Nat) (e : Int) (w : Nat) (hw : 1 ≤ w ∧ w ≤ 8) (hS : S.size < 140737488355328) (h : Suf S l) :
    factotumref01_Reader_Num.f (k + 9) S (pos S l) e w = some ((numE l e w).1, S, pos S (numE l e w).2.1, (numE l e w).2.2) := by
  unfold factotumref01_Reader_Num.f factotumref01_size.f
  rw [Option.bind_some, wide_in w hw, rraw e w hS (by omega) h, Option.bind_some]
  have hz : (B (rawE l e w).1).size ≤ 8 := by
    rw [B_size]; unfold rawE; (repeat' split) <;> simp; omega
  have := rnumr_go (B (rawE l e w).1) S (pos S (rawE l e w).2.1) (rawE l e w).2.2 (by omega) (B (rawE l e w).1).size 0 (k + 8 - (B (rawE l e w).1).size) (by omega)
  rw [show k + 8 - (B (rawE l e w).1).size + (B (rawE l e w).1).size + 1 = k + 9 by omega] at this
  refine this.trans ?_
  rw [B_data]
  unfold rawE numE
  by_cases he : e = 0
  · rw [if_pos he, if_pos he]; split <;> rfl
  · rw [if_neg he, if_neg he]; rfl
theorem rRstr {S : ByteArray} {l : List UInt8} (e : Int) (m : Nat) (hS : S.size < 140737488355328) (h : Suf S l) :
    factotumref01_Reader_Str.f S (pos S l) e m = some (B (strE l e m).1, S, pos S (strE l e m).2.1, (strE l e m).2.2) := by
  have hsz := h.size
  unfold factotumref01_Reader_Str.f strE
  by_cases he : e = 0
  · subst he
    rw [if_pos rfl, if_pos rfl, rleft 0 hS h, Option.bind_some]
    cases l with
    | nil => rfl
    | cons c r =>
      have hc := c.toNat_lt
      have hlc : (c :: r).length = r.length + 1 := rfl
      simp only
      have hp := pos_nat h
      rw [hp]
      obtain ⟨hi, hb, _⟩ := btn S (S.size - (c :: r).length) c r h.drop
      rw [if_neg (by omega), if_pos (by omega), if_pos (by omega), hb, IntWalk.wrap64_in (c.toNat : Int) ⟨by omega, by omega⟩]
      by_cases h2 : m < c.toNat
      · rw [if_pos (by omega), if_pos h2, ← hp]
      · rw [if_neg (by omega), if_neg h2, ← hp, rleft 0 hS h, Option.bind_some, IntWalk.wrap64_in (1 + (c.toNat : Int)) ⟨by omega, by omega⟩]
        simp only
        by_cases h3 : r.length < c.toNat
        · rw [if_pos (by omega), if_pos h3]
        · rw [if_neg (by omega), if_neg h3]
          rw [IntWalk.wrap64_in (pos S (c :: r) + (1 + (c.toNat : Int))) ⟨by unfold pos; omega, by unfold pos; omega⟩]
          rw [IntWalk.wrap64_in (pos S (c :: r) + (1 + (c.toNat : Int)) - (c.toNat : Int)) ⟨by unfold pos; omega, by unfold pos; omega⟩]
          rw [if_pos (by unfold pos; omega), if_pos (by omega), if_pos (by unfold pos; omega)]
          have e1 : (pos S (c :: r) + (1 + (c.toNat : Int)) - (c.toNat : Int)).toNat = S.size - (c :: r).length + 1 := by unfold pos; omega
          have e2 : (pos S (c :: r) + (1 + (c.toNat : Int))).toNat = S.size - (c :: r).length + (1 + c.toNat) := by unfold pos; omega
          rw [e1, e2, S_cut h, Nat.add_sub_cancel_left]
          have e3 : pos S (c :: r) + (1 + (c.toNat : Int)) = pos S (r.drop c.toNat) := by unfold pos; rw [List.length_drop]; omega
          rw [e3]; rfl
  · rw [if_neg he, if_neg he]
end Go.Proofs.YtljfichnlgfikaaDoor.XP
