/- The plain law of RowsOrder: rows' keys are ordered as their first values are. Condition: the bulk's bound. -/
import Derived.Test.YtekaeddagaejiaaDoorXCmp
import Derived.Test.YtekaeddagaejiaaDoorXRows
import Derived.Test.YtekaeddagaejiaaDoorXA
namespace Go.Proofs.YtekaeddagaejiaaDoor.XK
open Go.RowKit Go.Proofs.YtekaeddagaejiaaDoor.XW Go.Proofs.YtekaeddagaejiaaDoor.XLib Go.Proofs.YtekaeddagaejiaaDoor.PAll Go.Proofs.YtekaeddagaejiaaDoor.XO Go.Proofs.YtekaeddagaejiaaDoorW.PrintWords Go.Proofs.YtekaeddagaejiaaDoorW.PrintLast
/-- a number's digits to 256 -/
def digs : Nat → Int → List UInt8
  | 0, _ => []
  | m + 1, n => digs m (n / 256) ++ [UInt8.ofNat (n % 256).toNat]
theorem be8_digs (n : Int) : be8 n = digs 8 n := by
  obtain ⟨e7, e6, e5, e4, e3, e2, e1, e0⟩ := shr_eqs n
  unfold be8
  simp only [List.map_cons, List.map_nil, digs, List.nil_append, List.cons_append]
  rw [e7, e6, e5, e4, e3, e2, e1, e0]
  rw [show n / 256 / 256 = n / 65536 by omega, show n / 65536 / 256 = n / 16777216 by omega, show n / 16777216 / 256 = n / 4294967296 by omega, show n / 4294967296 / 256 = n / 1099511627776 by omega,
    show n / 1099511627776 / 256 = n / 281474976710656 by omega, show n / 281474976710656 / 256 = n / 72057594037927936 by omega, Int.ediv_one]
theorem digs_cmp : ∀ (m : Nat) (a b : Int) (x y : List UInt8), 0 ≤ a → 0 ≤ b → a < 256 ^ m → b < 256 ^ m → cmpB (digs m a ++ x) (digs m b ++ y) = if a < b then -1 else if b < a then 1 else cmpB x y := by
  intro m
  induction m with
  | zero =>
    intro a b x y h1 h2 h3 h4
    simp at h3 h4
    rw [if_neg (by omega), if_neg (by omega)]; rfl
  | succ m ih =>
    intro a b x y h1 h2 h3 h4
    rw [Int.pow_succ] at h3 h4
    simp only [digs, List.append_assoc]
    rw [ih _ _ _ _ (by omega) (by omega) (by omega) (by omega)]
    have ca := byte_back a
    have cb := byte_back b
    by_cases l1 : a / 256 < b / 256
    · rw [if_pos l1, if_pos (by omega)]
    · rw [if_neg l1]
      by_cases l2 : b / 256 < a / 256
      · rw [if_pos l2, if_neg (by omega), if_pos (by omega)]
      · rw [if_neg l2]
        simp only [List.cons_append, List.nil_append, cmpB]
        by_cases l3 : a < b
        · rw [if_pos l3, if_pos (by omega)]
        · rw [if_neg l3, if_neg (by omega)]
          by_cases l4 : b < a
          · rw [if_pos l4, if_pos (by omega)]
          · rw [if_neg l4, if_neg (by omega)]
theorem be8_cmp (a b : Int) (x y : List UInt8) (h1 : 0 ≤ a) (h2 : 0 ≤ b) (h3 : a < 18446744073709551616) (h4 : b < 18446744073709551616) :
    cmpB (be8 a ++ x) (be8 b ++ y) = if a < b then -1 else if b < a then 1 else cmpB x y := by
  rw [be8_digs, be8_digs]; exact digs_cmp 8 a b x y h1 h2 h3 h4
theorem esc_cmp : ∀ (s t x y : List UInt8), cmpB (esc s ++ 0 :: 1 :: x) (esc t ++ 0 :: 1 :: y) = if cmpB s t = 0 then cmpB x y else cmpB s t := by
  have z0 : (0 : UInt8).toNat = 0 := rfl
  have z1 : (1 : UInt8).toNat = 1 := rfl
  have z255 : (255 : UInt8).toNat = 255 := rfl
  have pos : ∀ c : UInt8, ¬ c = 0 → 0 < c.toNat := fun c h => by
    rcases Nat.eq_zero_or_pos c.toNat with h2 | h2
    · exact absurd (UInt8.toNat_inj.1 (show c.toNat = (0 : UInt8).toNat from h2)) h
    · exact h2
  intro s
  induction s with
  | nil =>
    intro t x y
    cases t with
    | nil => simp only [esc, List.nil_append]; exact cmpB_pre [0, 1] x y
    | cons d t =>
      have e : cmpB ([] : List UInt8) (d :: t) = -1 := rfl
      rw [e, if_neg (by decide)]
      by_cases h : d = 0
      · subst h; simp only [esc, if_pos, List.nil_append, List.cons_append, cmpB]
        rw [if_neg (by omega), if_neg (by omega), if_pos (by omega)]
      · have := pos d h
        simp only [esc, if_neg h, List.nil_append, List.cons_append, cmpB]; rw [if_pos (by omega)]
  | cons c s ih =>
    intro t x y
    cases t with
    | nil =>
      have e : cmpB (c :: s) ([] : List UInt8) = 1 := rfl
      rw [e, if_neg (by decide)]
      by_cases h : c = 0
      · subst h; simp only [esc, if_pos, List.nil_append, List.cons_append, cmpB]
        rw [if_neg (by omega), if_neg (by omega), if_neg (by omega), if_pos (by omega)]
      · have := pos c h
        simp only [esc, if_neg h, List.nil_append, List.cons_append, cmpB]; rw [if_neg (by omega), if_pos (by omega)]
    | cons d t =>
      by_cases he : c = d
      · subst he
        have e : cmpB (c :: s) (c :: t) = cmpB s t := cmpB_pre [c] s t
        rw [e]
        by_cases h : c = 0
        · subst h; simp only [esc, if_pos, List.cons_append]
          exact (cmpB_pre [0, 255] _ _).trans (ih t x y)
        · simp only [esc, if_neg h, List.cons_append]
          exact (cmpB_pre [c] _ _).trans (ih t x y)
      · have hne : ¬ c.toNat = d.toNat := fun h => he (UInt8.toNat_inj.1 h)
        have e : cmpB (c :: s) (d :: t) = if c.toNat < d.toNat then -1 else 1 := by
          simp only [cmpB]
          by_cases h1 : c.toNat < d.toNat
          · rw [if_pos h1, if_pos h1]
          · rw [if_neg h1, if_pos (by omega), if_neg h1]
        have en : ¬ cmpB (c :: s) (d :: t) = 0 := by rw [e]; split <;> decide
        rw [if_neg en, e]
        by_cases hc : c = 0
        · have hd : ¬ d = 0 := fun h => he (hc.trans h.symm)
          have pd := pos d hd
          subst hc
          simp only [esc, if_pos, if_neg hd, List.cons_append, cmpB]
          rw [if_pos (by omega), if_pos (by omega)]
        · have pc := pos c hc
          by_cases hd : d = 0
          · subst hd
            simp only [esc, if_pos, if_neg hc, List.cons_append, cmpB]
            rw [if_neg (by omega), if_pos (by omega), if_neg (by omega)]
          · simp only [esc, if_neg hd, if_neg hc, List.cons_append, cmpB]
            by_cases h1 : c.toNat < d.toNat
            · rw [if_pos h1, if_pos h1]
            · rw [if_neg h1, if_pos (by omega), if_neg h1]
/-- a value that may be -/
theorem val_cases (v : S29) (ho : oddV v = false) (hi : inV v) : (∃ n, v = ⟨1, n, ⟨#[]⟩⟩ ∧ -9223372036854775808 ≤ n ∧ n < 9223372036854775808) ∨ ∃ s, v = ⟨2, 0, s⟩ := by
  obtain ⟨x, n, s⟩ := v
  obtain ⟨_, hn⟩ := hi
  unfold oddV at ho
  simp only at ho hn
  by_cases h1 : x = 1
  · rw [if_pos h1] at ho
    left; exact ⟨n, by rw [h1, empty_of s (by simpa using ho)], hn⟩
  · rw [if_neg h1] at ho
    by_cases h2 : x = 2
    · rw [if_pos h2] at ho
      right; exact ⟨s, by rw [h2, show n = 0 by simpa using ho]⟩
    · rw [if_neg h2] at ho; cases ho
theorem enc_cmp (u v : S29) (hu : oddV u = false) (iu : inV u) (hv : oddV v = false) (iv : inV v) (x y : List UInt8) : cmpB (encV u ++ x) (encV v ++ y) = if cmpV u v = 0 then cmpB x y else cmpV u v := by
  rcases val_cases u hu iu with ⟨n, rfl, hn⟩ | ⟨s, rfl⟩ <;> rcases val_cases v hv iv with ⟨m, rfl, hm⟩ | ⟨t, rfl⟩
  · rw [enc1, enc1, List.cons_append, List.cons_append]
    refine (cmpB_pre [1] (be8 ((n + 9223372036854775808) % 18446744073709551616) ++ x) (be8 ((m + 9223372036854775808) % 18446744073709551616) ++ y)).trans ?_
    rw [be8_cmp _ _ _ _ (by omega) (by omega) (by omega) (by omega)]
    unfold cmpV
    rw [if_pos rfl]
    by_cases h : n = m
    · subst h; rw [if_pos rfl, cmpB_refl, if_pos rfl, if_neg (by omega), if_neg (by omega)]
    · have hz : ¬ c3 n m = 0 := fun h2 => h ((c3_zero n m).1 h2)
      rw [if_neg h, if_neg hz]
      unfold c3
      by_cases h1 : n < m
      · rw [if_pos (by omega), if_pos h1]
      · have h2 : n > m := by omega
        rw [if_neg (by omega), if_pos (by omega), if_neg h1, if_pos h2]
  · rw [enc1, enc2]; rfl
  · rw [enc1, enc2]; rfl
  · rw [enc2, enc2, List.cons_append, List.cons_append]
    refine (cmpB_pre [2] ((esc s.data.toList ++ [0, 1]) ++ x) ((esc t.data.toList ++ [0, 1]) ++ y)).trans ?_
    rw [List.append_assoc, List.append_assoc]
    exact esc_cmp s.data.toList t.data.toList x y
theorem encL_cmp : ∀ (a b : List S29), a.any oddV = false → (∀ v ∈ a, inV v) → b.any oddV = false → (∀ v ∈ b, inV v) → cmpB (encL a) (encL b) = cmpL a b := by
  have ne : ∀ (v : S29) (x : List UInt8), ∃ c r, encV v ++ x = c :: r := by
    intro v x; unfold encV; split <;> exact ⟨_, _, rfl⟩
  intro a
  induction a with
  | nil =>
    intro b _ _ _ _
    cases b with
    | nil => rfl
    | cons v b => rw [encL_cons]; obtain ⟨c, r, e⟩ := ne v (encL b); rw [e]; rfl
  | cons u a ih =>
    intro b ha ia hb ib
    cases b with
    | nil => rw [encL_cons]; obtain ⟨c, r, e⟩ := ne u (encL a); rw [e]; rfl
    | cons v b =>
      rw [List.any_cons, Bool.or_eq_false_iff] at ha hb
      rw [encL_cons, encL_cons, enc_cmp u v ha.1 (ia u (List.mem_cons_self ..)) hb.1 (ib v (List.mem_cons_self ..)), ih b ha.2 (fun w hw => ia w (List.mem_cons_of_mem _ hw)) hb.2 (fun w hw => ib w (List.mem_cons_of_mem _ hw))]
      rfl
end Go.Proofs.YtekaeddagaejiaaDoor.XK

namespace Go.Proofs.YtekaeddagaejiaaDoor.XR
open Go.RowKit Go.Proofs.YtekaeddagaejiaaDoor.PAll Go.Proofs.YtekaeddagaejiaaDoor.XP Go.Proofs.YtekaeddagaejiaaDoor.XV
theorem lives03 (k : Nat) : factotumlaw03_lives.f (k + 64) = some true := by
  have h : factotumlaw03_lives.f 64 = some true := by kernel_rfl
  induction k with
  | zero => exact h
  | succ k ih => rw [show k + 1 + 64 = (k + 64) + 1 by omega]; exact factotumlaw03_lives.mono _ _ ih
theorem bd_of (r : List S29) (h : (r.map XA.wt29).sum ≤ 1048576) : bd r := by
  induction r with
  | nil => intro v hv; cases hv
  | cons u r ih =>
    rw [List.map_cons, List.sum_cons] at h
    intro v hv
    rcases List.mem_cons.1 hv with rfl | hv
    · unfold XA.wt29 at h; omega
    · exact ih (by omega) v hv
end Go.Proofs.YtekaeddagaejiaaDoor.XR

namespace Go.Proofs.YtekaeddagaejiaaDoor.Pure
open Go.RowKit Go.Proofs.YtekaeddagaejiaaDoor.PAll Go.Proofs.YtekaeddagaejiaaDoorW.PrintWords Go.Proofs.YtekaeddagaejiaaDoor.XP Go.Proofs.YtekaeddagaejiaaDoor.XV Go.Proofs.YtekaeddagaejiaaDoor.XR
theorem RowsOrder (s : XA.S24) (a b : S29) (_ : XA.in24 s) (ia : XA.in29 a) (ib : XA.in29 b) (hb : XA.wt24 s + XA.wt29 a + XA.wt29 b ≤ 1048576) :
    ∃ k, factotumlaw03_RowsOrder.f k s.f0 s.f1 s.f2 a.f0 a.f1 a.f2 b.f0 b.f1 b.f2 = some true := by
  refine ⟨64, ?_⟩
  have ha : a.f2.size ≤ 1099511627776 := by unfold XA.wt29 at hb; omega
  have hb' : b.f2.size ≤ 1099511627776 := by unfold XA.wt29 at hb; omega
  unfold factotumlaw03_RowsOrder.f
  rw [lives03 0, Option.bind_some, if_pos rfl, p_key _ _ _ a ha (by omega), Option.bind_some, p_key _ _ _ b hb' (by omega), Option.bind_some]
  simp only
  by_cases h1 : (keyE s.f0 s.f1 s.f2 a).2 = 0
  · rw [if_pos h1]
    by_cases h2 : (keyE s.f0 s.f1 s.f2 b).2 = 0
    · rw [if_pos h2]
      have key : ∀ v : S29, (keyE s.f0 s.f1 s.f2 v).2 = 0 → oddV v = false ∧ (keyE s.f0 s.f1 s.f2 v).1 = encV v := by
        intro v h
        unfold keyE at h ⊢
        by_cases hr : rightS s.f0 s.f1 s.f2 = true
        · rw [if_pos hr] at h ⊢
          by_cases hf : fitV (rd s.f0 0) v = true
          · rw [if_pos hf]; exact ⟨(ok_parts (fit_ok hf).2).1, rfl⟩
          · rw [if_neg hf] at h; cases h
        · rw [if_neg hr] at h; cases h
      obtain ⟨oa, ea⟩ := key a h1
      obtain ⟨ob, eb⟩ := key b h2
      rw [show ([(⟨a.f0, a.f1, a.f2⟩ : S29)] : List S29) = [a] from rfl, show ([(⟨b.f0, b.f1, b.f2⟩ : S29)] : List S29) = [b] from rfl]
      rw [XK.kcmp [a] [b] (by simp) 64 (by simp), Option.bind_some, ea, eb, B_list, B_list]
      have hc := XK.encL_cmp [a] [b] (by simp [oa]) (fun w hw => by obtain rfl := List.mem_singleton.1 hw; exact ia) (by simp [ob]) (fun w hw => by obtain rfl := List.mem_singleton.1 hw; exact ib)
      rw [show encL [a] = encV a by simp [encL], show encL [b] = encV b by simp [encL]] at hc
      rw [XK.less_cmp, XK.eq_cmp, hc]
      rcases XK.cmpL_range [a] [b] with h | h | h <;> simp [h]
    · rw [if_neg h2]
  · rw [if_neg h1]
end Go.Proofs.YtekaeddagaejiaaDoor.Pure
