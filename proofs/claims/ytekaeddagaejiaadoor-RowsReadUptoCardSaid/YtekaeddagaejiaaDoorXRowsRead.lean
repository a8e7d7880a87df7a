/- Rows read: what the program reads of a key and a rest; there and back. Plain laws over the printed functions. No conditions. -/
import Derived.Test.YtekaeddagaejiaaDoorXRows
namespace Go.Proofs.YtekaeddagaejiaaDoor.XR
open Go.RowKit Go.Proofs.YtekaeddagaejiaaDoor.XW Go.Proofs.YtekaeddagaejiaaDoor.XLib Go.Proofs.YtekaeddagaejiaaDoor.PAll Go.Proofs.YtekaeddagaejiaaDoorW.PrintWords Go.Proofs.YtekaeddagaejiaaDoorW.PrintLast Go.Proofs.YtekaeddagaejiaaDoor.XP Go.Proofs.YtekaeddagaejiaaDoor.XV
/-- a rest's columns: the row so far, what is to come, the error -/
def colsE : List Int → List UInt8 → Int → List S29 → List S29 × List UInt8 × Int
  | [], l, e, acc => (acc, l, e)
  | k :: ks, l, e, acc =>
    if k = 1 then colsE ks (numE l e 8).2.1 (numE l e 8).2.2 (acc ++ [⟨k, wrap64 (numE l e 8).1, ⟨#[]⟩⟩])
    else colsE ks (strE l e 10).2.1 (strE l e 10).2.2 (acc ++ [⟨k, 0, B (strE l e 10).1⟩])
def endE (K : List Int) (u x : Int) (c : List S29 × List UInt8 × Int) : List S29 × Int := if doneE c.2.1 c.2.2 = 0 then (if fitsE K u x c.1 = 0 then (c.1, 0) else ([], 10)) else ([], 10)
theorem strE_le (l : List UInt8) (e : Int) (m : Nat) : (strE l e m).1.length ≤ 255 := by
  unfold strE
  split
  · cases l with
    | nil => simp
    | cons c r =>
      have := c.toNat_lt
      show (if m < c.toNat then ([], c :: r, (3 : Int)) else if r.length < c.toNat then ([], c :: r, 2) else (r.take c.toNat, r.drop c.toNat, 0)).1.length ≤ 255
      (repeat' split) <;> simp; omega
  · simp
theorem bd_snoc {r : List S29} {v : S29} (h : bd r) (hv : v.f2.size ≤ 1099511627776) : bd (r ++ [v]) := by
  intro w hw
  rcases List.mem_append.1 hw with h1 | h1
  · exact h w h1
  · obtain rfl := List.mem_singleton.1 h1; exact hv
theorem p_read_go (ks K : List Int) (u x : Int) (hl : ks.length ≤ 4) : ∀ (m i k : Nat) (l : List UInt8) (e : Int) (acc : List S29), i + m = ks.length → acc.length ≤ i + 1 → bd acc →
    rows_Read.l0 (k + m + 24) acc ks (ks.length : Int) (i : Int) K u x (B l) e = some (endE K u x (colsE (ks.drop i) l e acc)) := by
  intro m
  induction m with
  | zero =>
    intro i k l e acc hi ha hb
    rw [show k + 0 + 24 = (k + 23) + 1 by omega]
    generalize hQ : k + 23 = Q
    simp only [rows_Read.l0]
    rw [if_neg (by omega), List.drop_eq_nil_of_le (by omega), pRdone, Option.bind_some]
    unfold colsE endE
    by_cases h1 : doneE l e = 0
    · rw [if_pos h1, if_pos h1, p_fits K u x acc hb (by omega), Option.bind_some]
      by_cases h2 : fitsE K u x acc = 0
      · rw [if_pos h2, if_pos h2]
      · rw [if_neg h2, if_neg h2]
    · rw [if_neg h1, if_neg h1]
  | succ m ih =>
    intro i k l e acc hi ha hb
    have hlt : i < ks.length := by omega
    rw [show k + (m + 1) + 24 = (k + m + 24) + 1 by omega]
    generalize hK : k + m + 24 = Q
    simp only [rows_Read.l0]
    subst hK
    rw [if_pos (by omega), if_pos (by omega), if_pos (by omega), rdn ks i hlt, nexti i (by omega), List.drop_eq_getElem_cons hlt]
    simp only [colsE]
    by_cases h1 : ks[i] = 1
    · rw [if_pos h1, if_pos h1, show (8 : Int) = ((8 : Nat) : Int) from rfl, pRnum l e 8 (by omega), Option.bind_some, if_pos (by omega)]
      exact ih (i + 1) k _ _ _ (by omega) (by rw [List.length_append, List.length_singleton]; omega) (bd_snoc hb (by rw [show (⟨#[]⟩ : ByteArray).size = 0 from rfl]; omega))
    · rw [if_neg h1, if_neg h1, show (10 : Int) = ((10 : Nat) : Int) from rfl, pRstr, Option.bind_some, if_pos (by omega)]
      exact ih (i + 1) k _ _ _ (by omega) (by rw [List.length_append, List.length_singleton]; omega) (bd_snoc hb (by have := strE_le l e 10; simp only [B_size]; omega))
/-- the row of a key and a rest -/
def readE (K : List Int) (u x : Int) (key : ByteArray) (rest : List UInt8) : List S29 × Int :=
  if rightS K u x = true then (if (readL key).2 = 0 ∧ (readL key).1.length = 1 then endE K u x (colsE (K.drop 1) rest 0 (readL key).1) else ([], 10)) else ([], 4)
theorem readL_bd (key : ByteArray) (hk : key.size ≤ 1048576) (h : (readL key).2 = 0) : bd (readL key).1 := by
  obtain ⟨h1, h2, _⟩ := XK.write_read key (readL key).1 (by rw [← h])
  have h3 := XK.bulk_enc (readL key).1 h2
  rw [h1, ← Lib.size_eq] at h3
  intro v hv
  have := XK.bulk_mem _ v hv
  omega
theorem p_read (K : List Int) (u x : Int) (key : ByteArray) (rest : List UInt8) (hs : key.size ≤ 1048576) {k : Nat} (hk : key.size + 64 ≤ k) : rows_Read.f k K u x key (B rest) = some (readE K u x key rest) := by
  unfold rows_Read.f readE
  rw [p_right K u x (by omega), Option.bind_some]
  cases hr : rightS K u x with
  | false => rfl
  | true =>
    have hl := right_len hr
    rw [if_pos rfl, if_pos rfl, XK.kread key k (by omega) (by omega), Option.bind_some]
    obtain ⟨q, rfl⟩ : ∃ q, k = q + 1 := ⟨k - 1, by omega⟩
    by_cases h0 : (readL key).2 = 0
    · rw [if_pos h0]
      by_cases h1 : (readL key).1.length = 1
      · have hb : ((((readL key).1.length : Int) != 1) : Bool) = false := by rw [h1]; rfl
        rw [hb, if_pos ⟨h0, h1⟩]
        simp only [rows_Read.j0]
        rw [if_neg (by decide)]
        unfold pack_From.f
        rw [Option.bind_some, if_pos (by omega)]
        have hd : (K.drop 1).length ≤ 4 := by rw [List.length_drop]; omega
        have := p_read_go (K.drop 1) K u x hd (K.drop 1).length 0 (q - (K.drop 1).length - 24) rest 0 (readL key).1 (by omega) (by omega) (readL_bd key hs h0)
        rw [show q - (K.drop 1).length - 24 + (K.drop 1).length + 24 = q by omega, List.drop_zero] at this
        first
          | exact this
          | (rw [Option.bind_some]; exact this)
      · have hb : ((((readL key).1.length : Int) != 1) : Bool) = true := by rw [bne_iff_ne]; omega
        rw [hb, if_neg (fun h => h1 h.2)]
        simp only [rows_Read.j0]; rfl
    · rw [if_neg h0, if_neg (fun h => h0 h.1)]
      simp only [rows_Read.j0]; rfl
/-! ## there and back -/
theorem numE_app8 (a b : List UInt8) (w : Nat) (h : a.length = w) : numE (a ++ b) 0 w = (beNum a, b, 0) := by
  subst h
  unfold numE
  rw [if_pos rfl, if_neg (by simp), List.take_left, List.drop_left]
theorem strE_there (s b : List UInt8) (m : Nat) (h : s.length ≤ m) (hm : m < 256) : strE (UInt8.ofNat s.length :: (s ++ b)) 0 m = (s, b, 0) := by
  have hc : (UInt8.ofNat s.length).toNat = s.length := by rw [UInt8.toNat_ofNat']; omega
  unfold strE
  simp only [if_pos, hc]
  rw [if_neg (by omega), if_neg (by simp), List.take_left, List.drop_left]
theorem u64_bk (n : Int) (h : -9223372036854775808 ≤ n ∧ n < 9223372036854775808) : wrap64 (IntKind.u64.wrap n) = n := by rw [wrapu]; unfold wrap64; omega
theorem u64_th (n : Int) (h : 0 ≤ n ∧ n < 18446744073709551616) : IntKind.u64.wrap (wrap64 n) = n := by rw [wrapu]; unfold wrap64; omega
theorem p8 : ((256 ^ 8 : Nat) : Int) = 18446744073709551616 := rfl
theorem cols_enc : ∀ (ks : List Int) (r acc : List S29) (b : List UInt8), ks.length = r.length → all2 ks r = true → (∀ v ∈ r, XO.inV v) → colsE ks (restB r ++ b) 0 acc = (acc ++ r, b, 0) := by
  intro ks
  induction ks with
  | nil =>
    intro r acc b hn _ _
    obtain rfl : r = [] := List.eq_nil_of_length_eq_zero (by simpa using hn.symm)
    simp [colsE, restB]
  | cons k ks ih =>
    intro r acc b hn ha hi
    cases r with
    | nil => simp at hn
    | cons v r =>
      rw [all2_cons, Bool.and_eq_true] at ha
      obtain ⟨hf, ha⟩ := ha
      obtain ⟨hk, hv⟩ := fit_ok hf
      have hin := hi v (List.mem_cons_self ..)
      have hi' : ∀ w ∈ r, XO.inV w := fun w hw => hi w (List.mem_cons_of_mem _ hw)
      have hn' : ks.length = r.length := by simpa using hn
      rw [restB_cons, List.append_assoc]
      simp only [colsE]
      obtain ⟨a, n, s⟩ := v
      rcases ok_cases _ hv with ⟨h1, h2⟩ | ⟨h1, h2, h3⟩
      · simp only at h1 h2 hk
        subst h1 h2 hk
        have hu := u64_bd n
        have e : encR ⟨1, n, ⟨#[]⟩⟩ = beN 8 (IntKind.u64.wrap n) := rfl
        rw [if_pos rfl, e, numE_app8 _ _ 8 (beN_len 8 _)]
        simp only
        rw [ih r _ b hn' ha hi', beNum_beN 8 _ (by omega) hu.1 (by rw [p8]; exact hu.2), u64_bk n hin.2]
        simp
      · simp only at h1 h2 h3 hk
        subst h1 h2 hk
        have hl : s.data.toList.length = s.size := (Lib.size_eq s).symm
        have e : encR ⟨2, 0, s⟩ = UInt8.ofNat s.data.toList.length :: s.data.toList := by
          unfold encR
          rw [if_neg (show ¬ ((2 : Int) = 1) by decide)]
          simp only
          rw [Nat.min_eq_left (by omega), List.take_of_length_le (by omega)]
        rw [if_neg (show ¬ ((2 : Int) = 1) by decide), e, List.cons_append, strE_there _ _ 10 (by omega) (by omega)]
        simp only
        rw [ih r _ b hn' ha hi', show B s.data.toList = s from (of_B s).symm]
        simp
theorem numE_err (l : List UInt8) (e : Int) (w : Nat) (h : (numE l e w).2.2 = 0) : e = 0 := by
  unfold numE at h
  by_cases he : e = 0
  · exact he
  · rw [if_neg he] at h; exact h
theorem strE_err (l : List UInt8) (e : Int) (m : Nat) (h : (strE l e m).2.2 = 0) : e = 0 := by
  unfold strE at h
  by_cases he : e = 0
  · exact he
  · rw [if_neg he] at h; exact h
theorem cols_err : ∀ (ks : List Int) (l : List UInt8) (e : Int) (acc : List S29), (colsE ks l e acc).2.2 = 0 → e = 0 := by
  intro ks
  induction ks with
  | nil => intro l e acc h; exact h
  | cons k ks ih =>
    intro l e acc h
    simp only [colsE] at h
    split at h
    · exact numE_err _ _ _ (ih _ _ _ h)
    · exact strE_err _ _ _ (ih _ _ _ h)
theorem numE_inv8 (l : List UInt8) (h : (numE l 0 8).2.2 = 0) : l = beN 8 (IntKind.u64.wrap (wrap64 (numE l 0 8).1)) ++ (numE l 0 8).2.1 := by
  unfold numE at h ⊢
  rw [if_pos rfl] at h ⊢
  by_cases hl : l.length < 8
  · rw [if_pos hl] at h; cases h
  · rw [if_neg hl]
    simp only
    have hz : (l.take 8).length = 8 := by rw [List.length_take]; omega
    have hb := beNum_lt (l.take 8) (by omega)
    rw [hz, p8] at hb
    rw [u64_th _ ⟨(beNum_bd _).1, hb⟩]
    have e := beN_beNum (l.take 8) (by omega)
    rw [hz] at e
    rw [e, List.take_append_drop]
theorem strE_inv (l : List UInt8) (h : (strE l 0 10).2.2 = 0) : l = (UInt8.ofNat (min (strE l 0 10).1.length 255) :: (strE l 0 10).1.take 255) ++ (strE l 0 10).2.1 := by
  cases l with
  | nil => unfold strE at h; simp at h
  | cons d t =>
    have hd : strE (d :: t) 0 10 = if 10 < d.toNat then ([], d :: t, 3) else if t.length < d.toNat then ([], d :: t, 2) else (t.take d.toNat, t.drop d.toNat, 0) := rfl
    rw [hd] at h ⊢
    by_cases h4 : 10 < d.toNat
    · rw [if_pos h4] at h; cases h
    · rw [if_neg h4] at h ⊢
      by_cases h5 : t.length < d.toNat
      · rw [if_pos h5] at h; cases h
      · rw [if_neg h5]
        have hl : (t.take d.toNat).length = d.toNat := by rw [List.length_take]; omega
        have hdd : UInt8.ofNat d.toNat = d := UInt8.toNat_inj.1 (by rw [UInt8.toNat_ofNat']; have := d.toNat_lt; omega)
        simp only
        rw [hl, Nat.min_eq_left (by omega), hdd, List.take_of_length_le (l := t.take d.toNat) (by omega)]
        simp
theorem cols_inv : ∀ (ks : List Int) (l : List UInt8) (acc : List S29), (colsE ks l 0 acc).2.2 = 0 → ∃ r, (colsE ks l 0 acc).1 = acc ++ r ∧ r.length = ks.length ∧ l = restB r ++ (colsE ks l 0 acc).2.1 := by
  intro ks
  induction ks with
  | nil => intro l acc _; exact ⟨[], by simp [colsE], rfl, by simp [colsE, restB]⟩
  | cons k ks ih =>
    intro l acc h
    simp only [colsE] at h ⊢
    by_cases h1 : k = 1
    · rw [if_pos h1] at h ⊢
      have e := cols_err _ _ _ _ h
      have e2 := numE_inv8 l e
      rw [e] at h ⊢
      obtain ⟨r, r1, r2, r3⟩ := ih _ _ h
      refine ⟨⟨k, wrap64 (numE l 0 8).1, ⟨#[]⟩⟩ :: r, by rw [r1]; simp, by simp [r2], ?_⟩
      rw [restB_cons, List.append_assoc, ← r3]
      have e3 : encR ⟨k, wrap64 (numE l 0 8).1, ⟨#[]⟩⟩ = beN 8 (IntKind.u64.wrap (wrap64 (numE l 0 8).1)) := by unfold encR; rw [if_pos h1]
      rw [e3]; exact e2
    · rw [if_neg h1] at h ⊢
      have e := cols_err _ _ _ _ h
      have e2 := strE_inv l e
      rw [e] at h ⊢
      obtain ⟨r, r1, r2, r3⟩ := ih _ _ h
      refine ⟨⟨k, 0, B (strE l 0 10).1⟩ :: r, by rw [r1]; simp, by simp [r2], ?_⟩
      rw [restB_cons, List.append_assoc, ← r3]
      have e3 : encR ⟨k, 0, B (strE l 0 10).1⟩ = UInt8.ofNat (min (strE l 0 10).1.length 255) :: (strE l 0 10).1.take 255 := by unfold encR; rw [if_neg h1]
      rw [e3]; exact e2
end Go.Proofs.YtekaeddagaejiaaDoor.XR
