/- Schemas as bytes, and back. Plain laws over the printed functions. No conditions. -/
import Derived.Test.YtekaeddagaejiaaDoorXRows
namespace Go.Proofs.YtekaeddagaejiaaDoor.XR
open Go.RowKit Go.Proofs.YtekaeddagaejiaaDoor.XW Go.Proofs.YtekaeddagaejiaaDoor.XLib Go.Proofs.YtekaeddagaejiaaDoor.PAll Go.Proofs.YtekaeddagaejiaaDoorW.PrintWords Go.Proofs.YtekaeddagaejiaaDoorW.PrintLast Go.Proofs.YtekaeddagaejiaaDoor.XP Go.Proofs.YtekaeddagaejiaaDoor.XV
def byt (x : Int) : UInt8 := UInt8.ofNat (x % 256).toNat
theorem byt_u (x : Int) : beN 1 (IntKind.u64.wrap x) = [byt x] := by
  show [] ++ [UInt8.ofNat (IntKind.u64.wrap x % 256).toNat] = [byt x]
  rw [wrapu, show x % 18446744073709551616 % 256 = x % 256 by omega]; rfl
theorem bi_byt (x : Int) : ([x % 256] : List Int) = bi [byt x] := by unfold bi byt; simp only [List.map_cons, List.map_nil]; rw [bback]
theorem byt_nat (x : Int) (h : 0 ≤ x ∧ x < 256) : ((byt x).toNat : Int) = x := by unfold byt; rw [bback]; omega
/-- a schema's bytes -/
def schB (ks : List Int) (u x : Int) : List UInt8 := byt ks.length :: (ks.map byt ++ [byt u, byt x])
theorem p_sch_go (ks : List Int) (u x : Int) (K : List Int) (hl : ks.length ≤ 4) : ∀ (m i k : Nat) (b : List UInt8), i + m = ks.length → b.length ≤ i + 1 →
    rows_Schema.l0 (k + m + 1) (bi b) ks (ks.length : Int) (i : Int) K u x = some (B (b ++ ((ks.drop i).map byt ++ [byt u, byt x])), 0) := by
  intro m
  induction m with
  | zero =>
    intro i k b hi hb
    generalize hQ : k + 0 = Q
    simp only [rows_Schema.l0]
    have h2 : ([u % 256, x % 256] : List Int) = bi [byt u, byt x] := by unfold bi byt; simp only [List.map_cons, List.map_nil]; rw [bback, bback]
    rw [if_neg (by omega), Option.bind_some, h2, if_pos (by rw [bi_len, bi_len]; simp; omega), ← bi_app, strB, List.drop_eq_nil_of_le (by omega)]
    simp
  | succ m ih =>
    intro i k b hi hb
    have hlt : i < ks.length := by omega
    rw [show k + (m + 1) + 1 = (k + m + 1) + 1 by omega]
    generalize hQ : k + m + 1 = Q
    simp only [rows_Schema.l0]
    subst hQ
    rw [if_pos (by omega), if_pos (by omega), if_pos (by omega), if_pos (by rw [bi_len]; omega), rdn ks i hlt, nexti i (by omega), bi_byt, ← bi_app, ih (i + 1) k _ (by omega) (by simp; omega), List.drop_eq_getElem_cons hlt]
    simp only [List.map_cons, List.cons_append, List.append_assoc, List.nil_append]
theorem p_schema (ks : List Int) (u x : Int) {k : Nat} (hk : 16 ≤ k) : rows_Schema.f k ks u x = if rightS ks u x = true then some (B (schB ks u x), 0) else some (⟨#[]⟩, 4) := by
  unfold rows_Schema.f
  rw [p_right ks u x (by omega), Option.bind_some]
  cases hr : rightS ks u x with
  | false => rfl
  | true =>
    have hl := right_len hr
    rw [if_pos rfl, if_pos rfl, bi_byt]
    have := p_sch_go ks u x ks hl.2 ks.length 0 (k - ks.length - 1) [byt ks.length] (by omega) (by simp)
    rw [show k - ks.length - 1 + ks.length + 1 = k by omega, List.drop_zero] at this
    exact this
theorem rnum1 {k : Nat} (hk : 9 ≤ k) (n : Int) : factotumref01_Num.f k (IntKind.u64.wrap n) 1 = some (B [byt n]) := by
  have := rnumwk hk (IntKind.u64.wrap n) 1 (by omega) (u64_bd n).1 (u64_bd n).2
  rw [byt_u] at this
  exact this
theorem r_sch_go (ks : List Int) (u x : Int) (hl : ks.length ≤ 4) : ∀ (m i k : Nat) (b : List UInt8), i + m = ks.length → b.length ≤ i + 1 →
    factotumref03_Schema.l0 (k + m + 16) (B b) (i : Int) ks u x = some (B (b ++ ((ks.drop i).map byt ++ [byt u, byt x])), 0) := by
  intro m
  induction m with
  | zero =>
    intro i k b hi hb
    rw [show k + 0 + 16 = (k + 15) + 1 by omega]
    generalize hQ : k + 15 = Q
    simp only [factotumref03_Schema.l0]
    rw [if_neg (by omega), rnum1 (by omega), Option.bind_some, if_pos (by rw [B_size, B_size]; simp; omega), rnum1 (by omega), Option.bind_some, B_app, if_pos (by rw [B_size, B_size]; simp; omega), B_app, List.drop_eq_nil_of_le (by omega)]
    simp
  | succ m ih =>
    intro i k b hi hb
    have hlt : i < ks.length := by omega
    rw [show k + (m + 1) + 16 = (k + m + 16) + 1 by omega]
    generalize hQ : k + m + 16 = Q
    simp only [factotumref03_Schema.l0]
    subst hQ
    rw [if_pos (by omega), if_pos (by omega), rdn ks i hlt, rnum1 (by omega), Option.bind_some, if_pos (by rw [B_size, B_size]; simp; omega), nexti i (by omega), B_app, ih (i + 1) k _ (by omega) (by simp; omega), List.drop_eq_getElem_cons hlt]
    simp only [List.map_cons, List.cons_append, List.append_assoc, List.nil_append]
theorem r_schema (ks : List Int) (u x : Int) {k : Nat} (hk : 32 ≤ k) : factotumref03_Schema.f k ks u x = if rightS ks u x = true then some (B (schB ks u x), 0) else some (⟨#[]⟩, 4) := by
  unfold factotumref03_Schema.f
  rw [r_right ks u x (by omega), Option.bind_some]
  cases hr : rightS ks u x with
  | false => rfl
  | true =>
    have hl := right_len hr
    rw [if_pos rfl, if_pos rfl, rnum1 (by omega), Option.bind_some]
    have := r_sch_go ks u x hl.2 ks.length 0 (k - ks.length - 16) [byt ks.length] (by omega) (by simp)
    rw [show k - ks.length - 16 + ks.length + 16 = k by omega, List.drop_zero] at this
    exact this
/-! ## back -/
def kE : Nat → List UInt8 → Int → List Int → List Int × List UInt8 × Int
  | 0, l, e, acc => (acc, l, e)
  | m + 1, l, e, acc => kE m (numE l e 1).2.1 (numE l e 1).2.2 (acc ++ [(numE l e 1).1])
def unEnd (c : List Int × List UInt8 × Int) : List Int × Int × Int × Int :=
  if doneE (numE (numE c.2.1 c.2.2 1).2.1 (numE c.2.1 c.2.2 1).2.2 1).2.1 (numE (numE c.2.1 c.2.2 1).2.1 (numE c.2.1 c.2.2 1).2.2 1).2.2 = 0 then
    (if rightS c.1 (numE c.2.1 c.2.2 1).1 (numE (numE c.2.1 c.2.2 1).2.1 (numE c.2.1 c.2.2 1).2.2 1).1 = true then (c.1, (numE c.2.1 c.2.2 1).1, (numE (numE c.2.1 c.2.2 1).2.1 (numE c.2.1 c.2.2 1).2.2 1).1, 0) else ([], 0, 0, 10))
  else ([], 0, 0, 10)
def unE (l : List UInt8) : List Int × Int × Int × Int := unEnd (kE (numE l 0 1).1.toNat (numE l 0 1).2.1 (numE l 0 1).2.2 [])
theorem n1 (l : List UInt8) (e : Int) : 0 ≤ (numE l e 1).1 ∧ (numE l e 1).1 < 256 := by
  have := numE_bd l e 1 (by omega)
  rw [show ((256 ^ 1 : Nat) : Int) = 256 from rfl] at this; exact this
theorem n1w (l : List UInt8) (e : Int) : wrap64 (numE l e 1).1 = (numE l e 1).1 := by have := n1 l e; unfold wrap64; omega
theorem p_un_go (n : Nat) (hn : n < 256) : ∀ (m i k : Nat) (l : List UInt8) (e : Int) (acc : List Int), i + m = n → acc.length ≤ i →
    rows_Unschema.l0 (k + m + 24) (n : Int) (i : Int) (B l) e acc 0 0 = some (unEnd (kE m l e acc)) := by
  intro m
  induction m with
  | zero =>
    intro i k l e acc hi ha
    rw [show k + 0 + 24 = (k + 23) + 1 by omega]
    generalize hQ : k + 23 = Q
    simp only [rows_Unschema.l0]
    rw [if_neg (by omega), show (1 : Int) = ((1 : Nat) : Int) from rfl, pRnum l e 1 (by omega), Option.bind_some]
    simp only
    rw [pRnum _ _ 1 (by omega), Option.bind_some]
    simp only
    rw [pRdone, Option.bind_some]
    simp only [n1w]
    unfold kE unEnd
    simp only
    split
    · rw [p_right _ _ _ (by omega), Option.bind_some]
      split <;> rfl
    · rfl
  | succ m ih =>
    intro i k l e acc hi ha
    rw [show k + (m + 1) + 24 = (k + m + 24) + 1 by omega]
    generalize hQ : k + m + 24 = Q
    simp only [rows_Unschema.l0]
    subst hQ
    rw [if_pos (by omega)]
    have e1 : IntKind.u64.wrap ((i : Int) + 1) = ((i + 1 : Nat) : Int) := by rw [wrapu]; omega
    rw [e1]
    have e2 := pRnum l e 1 (by omega)
    rw [show ((1 : Nat) : Int) = 1 from rfl] at e2
    rw [e2, Option.bind_some, if_pos (by omega)]
    simp only [n1w]
    rw [ih (i + 1) k _ _ _ (by omega) (by simp; omega)]
    rfl
theorem p_un (l : List UInt8) {k : Nat} (hk : 300 ≤ k) : rows_Unschema.f k (B l) = some (unE l) := by
  unfold rows_Unschema.f pack_From.f unE
  rw [Option.bind_some]
  have e2 := pRnum l 0 1 (by omega)
  rw [show ((1 : Nat) : Int) = 1 from rfl] at e2
  simp only
  rw [e2, Option.bind_some]
  simp only
  obtain ⟨h0, h1⟩ := n1 l 0
  obtain ⟨n, hn⟩ : ∃ n : Nat, (numE l 0 1).1 = (n : Int) := ⟨(numE l 0 1).1.toNat, by omega⟩
  rw [hn, Int.toNat_natCast]
  have := p_un_go n (by omega) n 0 (k - n - 24) (numE l 0 1).2.1 (numE l 0 1).2.2 [] (by omega) (by simp)
  rw [show k - n - 24 + n + 24 = k by omega] at this
  exact this
theorem r_un_go (S : ByteArray) (hS : S.size < 140737488355328) (n : Nat) (hn : n < 256) : ∀ (m i k : Nat) (l : List UInt8) (e : Int) (acc : List Int), i + m = n → acc.length ≤ i → Suf S l →
    factotumref03_Unschema.l0 (k + m + 24) (n : Int) (i : Int) S (pos S l) e acc 0 0 = some (unEnd (kE m l e acc)) := by
  intro m
  induction m with
  | zero =>
    intro i k l e acc hi ha hs
    rw [show k + 0 + 24 = (k + 23) + 1 by omega]
    generalize hQ : k + 23 = Q
    simp only [factotumref03_Unschema.l0]
    have hs1 := hs.step (numE_suf l e 1)
    rw [if_neg (by omega), show (1 : Int) = ((1 : Nat) : Int) from rfl, rRnumk (by omega) e 1 (by omega) hS hs, Option.bind_some]
    simp only
    rw [rRnumk (by omega) _ 1 (by omega) hS hs1, Option.bind_some]
    simp only
    rw [rRdone _ hS (hs1.step (numE_suf _ _ 1)), Option.bind_some]
    simp only [n1w]
    unfold kE unEnd
    simp only
    split
    · rw [r_right _ _ _ (by omega), Option.bind_some]
      split <;> rfl
    · rfl
  | succ m ih =>
    intro i k l e acc hi ha hs
    rw [show k + (m + 1) + 24 = (k + m + 24) + 1 by omega]
    generalize hQ : k + m + 24 = Q
    simp only [factotumref03_Unschema.l0]
    subst hQ
    rw [if_pos (by omega)]
    have e1 : IntKind.u64.wrap ((i : Int) + 1) = ((i + 1 : Nat) : Int) := by rw [wrapu]; omega
    rw [e1]
    have e2 := rRnumk (S := S) (l := l) (k := k + m + 24) (by omega) e 1 (by omega) hS hs
    rw [show ((1 : Nat) : Int) = 1 from rfl] at e2
    rw [e2, Option.bind_some, if_pos (by omega)]
    simp only [n1w]
    rw [ih (i + 1) k _ _ _ (by omega) (by simp; omega) (hs.step (numE_suf l e 1))]
    rfl
theorem r_un (S : ByteArray) (hS : S.size < 140737488355328) {k : Nat} (hk : 300 ≤ k) : factotumref03_Unschema.f k S = some (unE S.data.toList) := by
  unfold factotumref03_Unschema.f unE
  have hs := Suf.whole S
  have e2 := rRnumk (k := k) (by omega) 0 1 (by omega) hS hs
  rw [pos_whole, show ((1 : Nat) : Int) = 1 from rfl] at e2
  rw [e2, Option.bind_some]
  simp only
  obtain ⟨h0, h1⟩ := n1 S.data.toList 0
  obtain ⟨n, hn⟩ : ∃ n : Nat, (numE S.data.toList 0 1).1 = (n : Int) := ⟨(numE S.data.toList 0 1).1.toNat, by omega⟩
  rw [hn, Int.toNat_natCast]
  have := r_un_go S hS n (by omega) n 0 (k - n - 24) (numE S.data.toList 0 1).2.1 (numE S.data.toList 0 1).2.2 [] (by omega) (by simp) (hs.step (numE_suf _ 0 1))
  rw [show k - n - 24 + n + 24 = k by omega] at this
  exact this
theorem num_one (c : UInt8) (r : List UInt8) : numE (c :: r) 0 1 = ((c.toNat : Int), r, 0) := by
  unfold numE
  rw [if_pos rfl, if_neg (by simp)]
  have : beNum [c] = (c.toNat : Int) := by have := c.toNat_lt; show beStep 0 c = _; unfold beStep; omega
  simp [this]
theorem kE_enc : ∀ (ks : List Int) (acc : List Int) (b : List UInt8), (∀ z ∈ ks, 0 ≤ z ∧ z < 256) → kE ks.length (ks.map byt ++ b) 0 acc = (acc ++ ks, b, 0) := by
  intro ks
  induction ks with
  | nil => intro acc b _; simp [kE]
  | cons z ks ih =>
    intro acc b h
    simp only [List.length_cons, kE, List.map_cons, List.cons_append]
    rw [num_one]
    simp only
    rw [ih _ b (fun y hy => h y (List.mem_cons_of_mem _ hy)), byt_nat z (h z (List.mem_cons_self ..))]
    simp
theorem un_sch (ks : List Int) (u x : Int) (h : rightS ks u x = true) : unE (schB ks u x) = (ks, u, x, 0) := by
  have hl := right_len h
  have h' := h
  unfold rightS at h'
  simp only [Bool.and_eq_true, decide_eq_true_eq, List.all_eq_true] at h'
  obtain ⟨⟨⟨_, hk⟩, hu⟩, hx, _⟩ := h'
  unfold unE schB
  rw [num_one, byt_nat _ (by omega)]
  simp only [Int.toNat_natCast]
  rw [kE_enc ks [] [byt u, byt x] (fun z hz => by have := hk z hz; unfold okK at this; simp at this; omega), List.nil_append]
  unfold unEnd
  simp only
  rw [num_one]
  simp only
  rw [num_one]
  simp only
  rw [byt_nat u (by omega), byt_nat x (by omega), if_pos (show doneE [] 0 = 0 from rfl), if_pos h]
/-! ## the same schemas -/
theorem same_sch_go (ks : List Int) (u x : Int) (hl : ks.length < 140737488355328) : ∀ (m i k : Nat), i + m = ks.length → factotumref03_SameSchema.l0 (k + m + 1) (i : Int) ks u x ks u x = some true := by
  intro m
  induction m with
  | zero => intro i k hi; generalize hQ : k + 0 = Q; simp only [factotumref03_SameSchema.l0]; rw [if_neg (by omega)]
  | succ m ih =>
    intro i k hi
    rw [show k + (m + 1) + 1 = (k + m + 1) + 1 by omega]
    generalize hQ : k + m + 1 = Q
    simp only [factotumref03_SameSchema.l0]
    subst hQ
    rw [if_pos (by omega), if_pos (by omega), if_pos (by omega), nexti i (by omega), if_pos trivial]
    exact ih (i + 1) k (by omega)
theorem same_sch (ks : List Int) (u x : Int) {k : Nat} (hl : ks.length + 2 ≤ k) (h2 : ks.length < 140737488355328) : factotumref03_SameSchema.f k ks u x ks u x = some true := by
  obtain ⟨k, rfl⟩ : ∃ j, k = j + 1 := ⟨k - 1, by omega⟩
  unfold factotumref03_SameSchema.f
  rw [if_pos rfl, if_pos rfl]
  simp only [factotumref03_SameSchema.j0]
  rw [if_neg (by simp)]
  have := same_sch_go ks u x h2 ks.length 0 (k - ks.length - 1) (by omega)
  rw [show k - ks.length - 1 + ks.length + 1 = k by omega] at this
  exact this
end Go.Proofs.YtekaeddagaejiaaDoor.XR
