/- Records as bytes: effects and the document's answer. Plain laws over the printed functions. No conditions. -/
import Derived.Test.YtjkjkebblkmpkaaDoorXEff
namespace Go.Proofs.YtjkjkebblkmpkaaDoor.XRc
open Go.RowKit Go.Proofs.YtjkjkebblkmpkaaDoor.XW Go.Proofs.YtjkjkebblkmpkaaDoor.XLib Go.Proofs.YtjkjkebblkmpkaaDoor.PAll Go.Proofs.YtjkjkebblkmpkaaDoorW.PrintWords Go.Proofs.YtjkjkebblkmpkaaDoorW.PrintLast Go.Proofs.YtjkjkebblkmpkaaDoor.XP Go.Proofs.YtjkjkebblkmpkaaDoor.XV Go.Proofs.YtjkjkebblkmpkaaDoor.XE
theorem pnum_ {k : Nat} (hk : 9 ≤ k) (x : List Int) (n : Int) (w : Nat) (hw : 1 ≤ w ∧ w ≤ 8) (hx : x.length + 8 < 140737488355328) : pack_Num.f k x n w = some (x ++ bi (beN w n)) := by
  obtain ⟨j, rfl⟩ : ∃ j, k = j + 9 := ⟨k - 9, by omega⟩
  exact pnum j x n w hw hx
theorem put_ {k : Nat} (hk : 9 ≤ k) (x : List UInt8) (v : S24) (hx : x.length + 300 < 140737488355328) : effects_put.f k (bi x) v.f0 v.f1 v.f2 = some (bi (x ++ encE v)) := by
  obtain ⟨j, rfl⟩ : ∃ j, k = j + 9 := ⟨k - 9, by omega⟩
  exact e_put j x v hx
def byt (x : Int) : UInt8 := UInt8.ofNat (x % 256).toNat
theorem byt_u (x : Int) : beN 1 (IntKind.u64.wrap x) = [byt x] := by
  show [] ++ [UInt8.ofNat (IntKind.u64.wrap x % 256).toNat] = [byt x]
  rw [wrapu, show x % 18446744073709551616 % 256 = x % 256 by omega]; rfl
theorem bi_byt (x : Int) : ([x % 256] : List Int) = bi [byt x] := by unfold bi byt; simp only [List.map_cons, List.map_nil]; rw [bback]
def zeroV (v : S24) : Bool := v.f0 == 0 && (v.f1 == 0 && (v.f2.toList == ([] : List UInt8)))
def cnt (n : Int) : Bool := decide (0 ≤ n ∧ n ≤ 255)
def recR (e : Int) (v : S24) (sl p o d : Int) : Bool := decide (0 ≤ e ∧ e ≤ 3) && ((zeroV v || valOK v) && (decide (0 ≤ sl ∧ sl ≤ 1000000) && (cnt p && (cnt o && cnt d))))
theorem fits1 (x : Int) (h0 : 0 ≤ x) (h1 : x < 9223372036854775808) : pack_Fits.f (IntKind.u64.wrap x) 1 = some (cnt x) := by
  unfold pack_Fits.f pack_wide.f
  rw [show mn (mx 1 1) 8 = 1 from rfl, Option.bind_some, show wrap64 (wrap64 (8 * 1) - 1) = 7 from by simp [wrap64], if_pos (by decide)]
  rw [show shr .u64 (IntKind.u64.wrap x) 7 = IntKind.u64.wrap x / 128 from rfl, wrapu]
  unfold cnt
  congr 1
  by_cases h : x ≤ 255
  · rw [decide_eq_true ⟨h0, h⟩, beq_iff_eq]; omega
  · rw [decide_eq_false (fun q => h q.2), beq_eq_false_iff_ne]; omega
def i64 (n : Int) : Prop := -9223372036854775808 ≤ n ∧ n < 9223372036854775808
theorem p_right (e : Int) (v : S24) (sl p o d : Int) (hv : v.f2.size ≤ 1099511627776) (hp : i64 p) (ho : i64 o) (hd : i64 d) {k : Nat} (hk : 4 ≤ k) : effects_right.f k e v.f0 v.f1 v.f2 sl p o d = some (recR e v sl p o d) := by
  obtain ⟨k, rfl⟩ : ∃ j, k = j + 4 := ⟨k - 4, by omega⟩
  have last : ∀ q : Nat, effects_right.l0 (q + 1) [p, o, d] 3 3 e v.f0 v.f1 v.f2 sl p o d = some (decide (0 ≤ e ∧ e ≤ 3) && ((zeroV v || valOK v) && decide (0 ≤ sl ∧ sl ≤ 1000000))) := by
    intro q
    simp only [effects_right.l0]
    rw [if_neg (by decide)]
    by_cases e1 : 0 ≤ e
    · rw [if_pos e1]
      by_cases e2 : e ≤ 3
      · rw [if_pos e2, decide_eq_true (show 0 ≤ e ∧ e ≤ 3 from ⟨e1, e2⟩)]
        by_cases s1 : 0 ≤ sl
        · rw [if_pos s1]
          by_cases s2 : sl ≤ 1000000
          · rw [if_pos s2, decide_eq_true (show 0 ≤ sl ∧ sl ≤ 1000000 from ⟨s1, s2⟩)]
            by_cases z : zeroV v = true
            · have z' := z
              unfold zeroV at z'
              rw [if_pos z', z]; rfl
            · have z' := z
              unfold zeroV at z'
              rw [if_neg z', e_odd v hv, Option.bind_some]
              have : zeroV v = false := by simpa using z
              rw [this]; simp
          · rw [if_neg s2, decide_eq_false (show ¬ (0 ≤ sl ∧ sl ≤ 1000000) from fun h => s2 h.2)]; simp
        · rw [if_neg s1, decide_eq_false (show ¬ (0 ≤ sl ∧ sl ≤ 1000000) from fun h => s1 h.1)]; simp
      · rw [if_neg e2, decide_eq_false (show ¬ (0 ≤ e ∧ e ≤ 3) from fun h => e2 h.2)]; rfl
    · rw [if_neg e1, decide_eq_false (show ¬ (0 ≤ e ∧ e ≤ 3) from fun h => e1 h.1)]; rfl
  have step : ∀ (i : Int) (x : Int) (q : Nat), rd [p, o, d] i = x → 0 ≤ i → i < 3 → i64 x → effects_right.l0 (q + 1) [p, o, d] 3 i e v.f0 v.f1 v.f2 sl p o d = if cnt x = true then effects_right.l0 q [p, o, d] 3 (i + 1) e v.f0 v.f1 v.f2 sl p o d else some false := by
    intro i x q hx h0 h3 hi
    simp only [effects_right.l0]
    rw [if_pos h3, if_pos h0, if_pos (show i < (([p, o, d] : List Int).length : Int) by simp only [List.length_cons, List.length_nil]; omega), hx]
    by_cases hn : x < 0
    · rw [if_pos hn, if_neg (by unfold cnt; rw [decide_eq_true_eq]; omega)]
    · rw [if_neg hn, fits1 x (by omega) hi.2, Option.bind_some, IntWalk.wrap64_in _ ⟨by omega, by omega⟩]
  unfold effects_right.f
  rw [Option.bind_some, show ((([p, o, d] : List Int).length : Int)) = 3 from rfl]
  rw [step 0 p (k + 3) rfl (by decide) (by decide) hp, show (0 : Int) + 1 = 1 from rfl, step 1 o (k + 2) rfl (by decide) (by decide) ho, show (1 : Int) + 1 = 2 from rfl, step 2 d (k + 1) rfl (by decide) (by decide) hd, show (2 : Int) + 1 = 3 from rfl, last k]
  unfold recR
  cases cnt p <;> cases cnt o <;> cases cnt d <;> simp
/-- a record's bytes -/
def recB (e : Int) (v : S24) (sl p o d : Int) : List UInt8 := byt e :: ((if v.f0 = 0 then [0] else 1 :: encE v) ++ beN 4 (IntKind.u64.wrap sl) ++ [byt p, byt o, byt d])
theorem encE_le (v : S24) : (encE v).length ≤ 257 := by
  unfold encE; rw [List.length_cons]; split
  · rw [beN_len]; omega
  · rw [List.length_cons, List.length_take]; omega
theorem p_rec (e : Int) (v : S24) (sl p o d : Int) (hv : v.f2.size ≤ 1099511627776) (hp : i64 p) (ho : i64 o) (hd : i64 d) {k : Nat} (hk : 16 ≤ k) :
    effects_Write.f k e v.f0 v.f1 v.f2 sl p o d = if recR e v sl p o d = true then some (B (recB e v sl p o d), 0) else some (⟨#[]⟩, 4) := by
  unfold effects_Write.f
  rw [p_right e v sl p o d hv hp ho hd (by omega), Option.bind_some]
  cases recR e v sl p o d with
  | false => rfl
  | true =>
    rw [if_pos rfl, if_pos rfl, Option.bind_some]
    have h3 : ([p % 256, o % 256, d % 256] : List Int) = bi [byt p, byt o, byt d] := by unfold bi byt; simp only [List.map_cons, List.map_nil]; rw [bback, bback, bback]
    have h2 : ([e % 256, 0] : List Int) = bi [byt e, 0] := by unfold bi byt; simp only [List.map_cons, List.map_nil]; rw [bback]; rfl
    unfold recB
    by_cases h0 : v.f0 = 0
    · rw [if_pos h0, if_pos h0, h2, show (4 : Int) = ((4 : Nat) : Int) from rfl, pnum_ (by omega) _ _ 4 (by omega) (by rw [bi_len]; simp), Option.bind_some, Option.bind_some, ← bi_app, h3, if_pos (by rw [bi_len, bi_len, List.length_append, beN_len]; simp), ← bi_app, strB]
      simp
    · have h2' : (([e % 256, 0] : List Int).set (1 : Int).toNat 1) = bi [byt e, 1] := by
        show [e % 256, 1] = _
        unfold bi byt; simp only [List.map_cons, List.map_nil]; rw [bback]; rfl
      have hl := encE_le v
      rw [if_neg h0, if_neg h0, if_pos (by simp), h2', put_ (by omega) _ v (by simp), Option.bind_some, show (4 : Int) = ((4 : Nat) : Int) from rfl, pnum_ (by omega) _ _ 4 (by omega) (by rw [bi_len, List.length_append]; simp; omega), Option.bind_some, Option.bind_some, ← bi_app, h3,
        if_pos (by rw [bi_len, bi_len, List.length_append, List.length_append, beN_len]; simp; omega), ← bi_app, strB]
      simp
theorem r_cnt (x : Int) : factotumref17_count.f x = some (cnt x) := by
  unfold factotumref17_count.f cnt
  by_cases h : x ≥ 0
  · rw [if_pos h]; congr 1; simp [h]
  · rw [if_neg h, decide_eq_false (by omega)]
theorem r_right (e : Int) (v : S24) (sl p o d : Int) : factotumref17_Right.f e v.f0 v.f1 v.f2 sl p o d = some (recR e v sl p o d) := by
  unfold factotumref17_Right.f
  have tail : (if sl ≥ 0 then (if sl ≤ 1000000 then ((factotumref17_count.f p).bind fun t238 => (if t238 = true then ((factotumref17_count.f o).bind fun t239 => (if t239 = true then ((factotumref17_count.f d).bind fun t240 => (some t240)) else (some false))) else (some false))) else (some false)) else (some false)) = some (decide (0 ≤ sl ∧ sl ≤ 1000000) && (cnt p && (cnt o && cnt d))) := by
    rw [r_cnt, r_cnt, r_cnt]
    by_cases s1 : 0 ≤ sl
    · rw [if_pos s1]
      by_cases s2 : sl ≤ 1000000
      · rw [if_pos s2, decide_eq_true (show 0 ≤ sl ∧ sl ≤ 1000000 from ⟨s1, s2⟩)]
        cases cnt p <;> cases cnt o <;> cases cnt d <;> rfl
      · rw [if_neg s2, decide_eq_false (show ¬ (0 ≤ sl ∧ sl ≤ 1000000) from fun h => s2 h.2)]; rfl
    · rw [if_neg s1, decide_eq_false (show ¬ (0 ≤ sl ∧ sl ≤ 1000000) from fun h => s1 h.1)]; rfl
  unfold recR
  by_cases e1 : 0 ≤ e
  · rw [if_pos e1]
    by_cases e2 : e ≤ 3
    · rw [if_pos e2, decide_eq_true (show 0 ≤ e ∧ e ≤ 3 from ⟨e1, e2⟩)]
      by_cases z : zeroV v = true
      · have z' := z
        unfold zeroV at z'
        rw [if_pos z', tail, z]; simp
      · have z' := z
        unfold zeroV at z'
        have hz : zeroV v = false := by simpa using z
        rw [if_neg z', r_is, Option.bind_some, hz]
        cases valOK v with
        | false => rfl
        | true => rw [if_pos rfl, tail]; simp
    · rw [if_neg e2, decide_eq_false (show ¬ (0 ≤ e ∧ e ≤ 3) from fun h => e2 h.2)]; rfl
  · rw [if_neg e1, decide_eq_false (show ¬ (0 ≤ e ∧ e ≤ 3) from fun h => e1 h.1)]; rfl
theorem rec_ok {e : Int} {v : S24} {sl p o d : Int} (h : recR e v sl p o d = true) (h0 : ¬ v.f0 = 0) : valOK v = true := by
  unfold recR at h
  simp only [Bool.and_eq_true, Bool.or_eq_true] at h
  rcases h.2.1 with h1 | h1
  · unfold zeroV at h1
    simp only [Bool.and_eq_true, beq_iff_eq] at h1
    exact absurd h1.1 h0
  · exact h1
end Go.Proofs.YtjkjkebblkmpkaaDoor.XRc
