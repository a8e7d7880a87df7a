/- Nodes out of pages: what the program and the document's answer read. Plain laws over the printed functions. No conditions. -/
import Derived.Test.YtokjbncjapndgaaDoorXNodeW
import Derived.Lib.TrimByte
namespace Go.Proofs.YtokjbncjapndgaaDoor.XN
open Go.RowKit Go.Proofs.YtokjbncjapndgaaDoor.XW Go.Proofs.YtokjbncjapndgaaDoor.XLib Go.Proofs.YtokjbncjapndgaaDoor.PAll Go.Proofs.YtokjbncjapndgaaDoorW.PrintWords Go.Proofs.YtokjbncjapndgaaDoorW.PrintLast Go.Proofs.YtokjbncjapndgaaDoor.XP
set_option linter.unusedSimpArgs false
theorem dw_nil (l : List UInt8) (c : UInt8) : l.dropWhile (· == c) = [] ↔ ∀ x ∈ l, x = c := by
  induction l with
  | nil => simp
  | cons a l ih =>
    rw [List.dropWhile_cons]
    by_cases h : a = c
    · rw [if_pos (by simpa using h), ih]; simp [h]
    · rw [if_neg (by simpa using h)]; simp [h]
theorem dw_head (l : List UInt8) (c a : UInt8) (r : List UInt8) (h : l.dropWhile (· == c) = a :: r) : a ≠ c := by
  induction l with
  | nil => cases h
  | cons b l ih =>
    rw [List.dropWhile_cons] at h
    by_cases hb : b = c
    · rw [if_pos (by simpa using hb)] at h; exact ih h
    · rw [if_neg (by simpa using hb)] at h
      injection h with h1 h2
      rw [← h1]; exact hb
theorem trim_nil (l : List UInt8) (c : UInt8) : Lib.trimB l c = [] ↔ ∀ x ∈ l, x = c := by
  have e : Lib.trimB l c = ((l.reverse.dropWhile (· == c)).reverse).dropWhile (· == c) := rfl
  rw [e, dw_nil]
  constructor
  · intro h
    have h2 : l.reverse.dropWhile (· == c) = [] := by
      cases hd : l.reverse.dropWhile (· == c) with
      | nil => rfl
      | cons a r =>
        have := dw_head _ _ _ _ hd
        exact absurd (h a (by rw [hd]; simp)) this
    have := (dw_nil _ _).1 h2
    intro x hx
    exact this x (by simpa using hx)
  · intro h x hx
    have h2 : l.reverse.dropWhile (· == c) = [] := (dw_nil _ _).2 (fun y hy => h y (by simpa using hy))
    rw [h2] at hx; cases hx
theorem strE_len (l : List UInt8) (e : Int) (m : Nat) : (strE l e m).1.length ≤ 255 := by
  unfold strE
  split
  · cases l with
    | nil => simp
    | cons c r =>
      have := c.toNat_lt
      show (if m < c.toNat then ([], c :: r, (3 : Int)) else if r.length < c.toNat then ([], c :: r, 2) else (r.take c.toNat, r.drop c.toNat, 0)).1.length ≤ 255
      (repeat' split) <;> simp; omega
  · simp
theorem ofc (c : UInt8) : UInt8.ofNat c.toNat = c := by
  apply UInt8.toNat_inj.1; rw [UInt8.toNat_ofNat']; have := c.toNat_lt; omega
theorem strL_small (s : ByteArray) (h : s.size ≤ 255) : strL s = UInt8.ofNat s.size :: s.data.toList := by
  unfold strL
  rw [Nat.min_eq_left h, List.take_of_length_le (by rw [← Lib.size_eq]; exact h)]
theorem strE_enc (s : ByteArray) (b : List UInt8) (m : Nat) (h : s.size ≤ m) (hm : m ≤ 255) : strE (strL s ++ b) 0 m = (s.data.toList, b, 0) := by
  have hl : s.data.toList.length = s.size := (Lib.size_eq s).symm
  rw [strL_small s (by omega)]
  show (if (0 : Int) = 0 then (if m < (UInt8.ofNat s.size).toNat then ([], UInt8.ofNat s.size :: (s.data.toList ++ b), (3 : Int)) else if (s.data.toList ++ b).length < (UInt8.ofNat s.size).toNat then ([], UInt8.ofNat s.size :: (s.data.toList ++ b), 2) else ((s.data.toList ++ b).take (UInt8.ofNat s.size).toNat, (s.data.toList ++ b).drop (UInt8.ofNat s.size).toNat, 0)) else _) = _
  have e : (UInt8.ofNat s.size).toNat = s.size := by rw [UInt8.toNat_ofNat']; omega
  rw [if_pos rfl, e, if_neg (by omega), if_neg (by rw [List.length_append]; omega), ← hl, List.take_left, List.drop_left]
theorem strE_inv (l a l' : List UInt8) (m : Nat) (h : strE l 0 m = (a, l', 0)) : l = strL (B a) ++ l' ∧ a.length ≤ m ∧ a.length ≤ 255 := by
  cases l with
  | nil => simp [strE] at h
  | cons c r =>
    have hc := c.toNat_lt
    replace h : (if m < c.toNat then ([], c :: r, (3 : Int)) else if r.length < c.toNat then ([], c :: r, 2) else (r.take c.toNat, r.drop c.toNat, 0)) = (a, l', 0) := h
    split at h
    · simp at h
    · split at h
      · simp at h
      · simp only [Prod.mk.injEq, and_true] at h
        obtain ⟨rfl, rfl⟩ := h
        have hl : (r.take c.toNat).length = c.toNat := by rw [List.length_take]; omega
        rw [strL_small _ (by rw [B_size]; omega), B_size, hl, ofc]
        exact ⟨by simp, by omega, by omega⟩
theorem strE_bad (l : List UInt8) (e : Int) (m : Nat) (h : e ≠ 0) : strE l e m = ([], l, e) := by unfold strE; rw [if_neg h]
theorem numE_bad (l : List UInt8) (e : Int) (w : Nat) (h : e ≠ 0) : numE l e w = (0, l, e) := by unfold numE; rw [if_neg h]
theorem numE_enc (x : Int) (b : List UInt8) (w : Nat) (hw : w ≤ 8) (h0 : 0 ≤ x) (h1 : x < (256 ^ w : Nat)) : numE (beN w x ++ b) 0 w = (x, b, 0) := by
  have hl := beN_len w x
  unfold numE
  have ht : (beN w x ++ b).take w = beN w x := by rw [List.take_append_of_le_length (by omega), List.take_of_length_le (by omega)]
  have hd : (beN w x ++ b).drop w = b := by rw [List.drop_append_of_le_length (by omega), List.drop_of_length_le (by omega), List.nil_append]
  rw [if_pos rfl, if_neg (by rw [List.length_append]; omega), ht, hd, beNum_beN w x hw h0 h1]
theorem numE_inv (l l' : List UInt8) (x : Int) (w : Nat) (hw : w ≤ 8) (h : numE l 0 w = (x, l', 0)) : l = beN w x ++ l' ∧ 0 ≤ x ∧ x < (256 ^ w : Nat) := by
  unfold numE at h
  rw [if_pos rfl] at h
  split at h
  · simp at h
  · simp only [Prod.mk.injEq, and_true] at h
    obtain ⟨rfl, rfl⟩ := h
    have hl : (l.take w).length = w := by rw [List.length_take]; omega
    have h1 := beN_beNum (l.take w) (by omega)
    have h2 := beNum_lt (l.take w) (by omega)
    rw [hl] at h1 h2
    rw [h1]
    exact ⟨(List.take_append_drop w l).symm, (beNum_bd _).1, h2⟩
/-! ## pairs, and keys with kids, one behind the other -/
def rdL (m1 m2 : Nat) : Nat → List UInt8 → Int → List Pr × List UInt8 × Int
  | 0, l, e => ([], l, e)
  | n + 1, l, e => (⟨B (strE l e m1).1, B (strE (strE l e m1).2.1 (strE l e m1).2.2 m2).1⟩ :: (rdL m1 m2 n (strE (strE l e m1).2.1 (strE l e m1).2.2 m2).2.1 (strE (strE l e m1).2.1 (strE l e m1).2.2 m2).2.2).1,
      (rdL m1 m2 n (strE (strE l e m1).2.1 (strE l e m1).2.2 m2).2.1 (strE (strE l e m1).2.1 (strE l e m1).2.2 m2).2.2).2)
def rdI (m1 : Nat) : Nat → List UInt8 → Int → List ByteArray × List Int × List UInt8 × Int
  | 0, l, e => ([], [], l, e)
  | n + 1, l, e => (B (strE l e m1).1 :: (rdI m1 n (numE (strE l e m1).2.1 (strE l e m1).2.2 2).2.1 (numE (strE l e m1).2.1 (strE l e m1).2.2 2).2.2).1,
      wrap64 (numE (strE l e m1).2.1 (strE l e m1).2.2 2).1 :: (rdI m1 n (numE (strE l e m1).2.1 (strE l e m1).2.2 2).2.1 (numE (strE l e m1).2.1 (strE l e m1).2.2 2).2.2).2.1,
      (rdI m1 n (numE (strE l e m1).2.1 (strE l e m1).2.2 2).2.1 (numE (strE l e m1).2.1 (strE l e m1).2.2 2).2.2).2.2)
theorem rdL_enc (m1 m2 : Nat) (h1 : m1 ≤ 255) (h2 : m2 ≤ 255) : ∀ (ps : List Pr) (b : List UInt8), (∀ p ∈ ps, p.f0.size ≤ m1 ∧ p.f1.size ≤ m2) → rdL m1 m2 ps.length (leafL ps ++ b) 0 = (ps, b, 0) := by
  intro ps
  induction ps with
  | nil => intro b _; rfl
  | cons p ps ih =>
    intro b h
    obtain ⟨p1, p2⟩ := h p (by simp)
    have e1 : strE (leafL (p :: ps) ++ b) 0 m1 = (p.f0.data.toList, strL p.f1 ++ (leafL ps ++ b), 0) := by
      rw [leafL_cons, List.append_assoc, List.append_assoc]; exact strE_enc _ _ _ p1 h1
    have e2 := strE_enc p.f1 (leafL ps ++ b) m2 p2 h2
    rw [List.length_cons]
    simp only [rdL, e1, e2]
    rw [ih b (fun q hq => h q (by simp [hq])), ← of_B, ← of_B]
theorem rdL_bad (m1 m2 : Nat) : ∀ (n : Nat) (l : List UInt8) (e : Int), e ≠ 0 → (rdL m1 m2 n l e).2.2 ≠ 0 := by
  intro n
  induction n with
  | zero => intro l e h; exact h
  | succ n ih => intro l e h; simp only [rdL, strE_bad _ _ _ h]; exact ih l e h
theorem rdL_inv (m1 m2 : Nat) : ∀ (n : Nat) (l : List UInt8) (e : Int), (rdL m1 m2 n l e).2.2 = 0 → e = 0 ∧ l = leafL (rdL m1 m2 n l e).1 ++ (rdL m1 m2 n l e).2.1 ∧ (∀ p ∈ (rdL m1 m2 n l e).1, p.f0.size ≤ 255 ∧ p.f1.size ≤ 255) := by
  intro n
  induction n with
  | zero => intro l e h; exact ⟨h, rfl, fun p hp => by cases hp⟩
  | succ n ih =>
    intro l e h
    simp only [rdL] at h ⊢
    obtain ⟨q1, q2, q3⟩ := ih _ _ h
    generalize hb : strE (strE l e m1).2.1 (strE l e m1).2.2 m2 = b at q1 q2 q3 h ⊢
    generalize ha : strE l e m1 = a at hb q1 q2 q3 h ⊢
    obtain ⟨b1, b2, b3⟩ := b
    obtain ⟨a1, a2, a3⟩ := a
    simp only at *
    subst q1
    have ha3 : a3 = 0 := by
      rcases Int.decEq a3 0 with h3 | h3
      · rw [strE_bad _ _ _ h3] at hb; simp only [Prod.mk.injEq] at hb; exact absurd hb.2.2 h3
      · exact h3
    subst ha3
    have he : e = 0 := by
      rcases Int.decEq e 0 with h3 | h3
      · rw [strE_bad _ _ _ h3] at ha; simp only [Prod.mk.injEq] at ha; exact absurd ha.2.2 h3
      · exact h3
    subst he
    obtain ⟨i1, i2, i3⟩ := strE_inv _ _ _ _ ha
    obtain ⟨j1, j2, j3⟩ := strE_inv _ _ _ _ hb
    refine ⟨rfl, ?_, ?_⟩
    · rw [leafL_cons, List.append_assoc, List.append_assoc, ← q2, ← j1]; exact i1
    · intro p hp
      rcases List.mem_cons.1 hp with rfl | hp
      · exact ⟨by rw [B_size]; exact i3, by rw [B_size]; exact j3⟩
      · exact q3 p hp
theorem rdL_len (m1 m2 : Nat) : ∀ (n : Nat) (l : List UInt8) (e : Int), (rdL m1 m2 n l e).1.length = n := by
  intro n
  induction n with
  | zero => intro l e; rfl
  | succ n ih => intro l e; simp only [rdL, List.length_cons, ih]
theorem rdI_enc (m1 : Nat) (h1 : m1 ≤ 255) : ∀ (ks : List ByteArray) (cs : List Int) (b : List UInt8), ks.length = cs.length → (∀ s ∈ ks, s.size ≤ m1) → (∀ c ∈ cs, 0 ≤ c ∧ c < 65536) → rdI m1 ks.length (innL ks cs ++ b) 0 = (ks, cs, b, 0) := by
  intro ks
  induction ks with
  | nil => intro cs b hl _ _; cases cs with
    | nil => rfl
    | cons c cs => simp at hl
  | cons s ks ih =>
    intro cs b hl hs hc
    cases cs with
    | nil => simp at hl
    | cons c cs =>
      obtain ⟨c0, c1⟩ := hc c (by simp)
      have e1 : strE (innL (s :: ks) (c :: cs) ++ b) 0 m1 = (s.data.toList, beN 2 (IntKind.u64.wrap c) ++ (innL ks cs ++ b), 0) := by
        show strE (strL s ++ beN 2 (IntKind.u64.wrap c) ++ innL ks cs ++ b) 0 m1 = _
        rw [List.append_assoc, List.append_assoc]; exact strE_enc _ _ _ (hs s (by simp)) h1
      have ew : IntKind.u64.wrap c = c := by rw [wrapu]; omega
      have e2 := numE_enc c (innL ks cs ++ b) 2 (by omega) c0 (by simpa using c1)
      rw [ew] at e1
      rw [List.length_cons]
      simp only [rdI, e1, e2]
      rw [ih cs b (by simpa using hl) (fun q hq => hs q (by simp [hq])) (fun q hq => hc q (by simp [hq])), ← of_B, IntWalk.wrap64_in c ⟨by omega, by omega⟩]
theorem rdI_len (m1 : Nat) : ∀ (n : Nat) (l : List UInt8) (e : Int), (rdI m1 n l e).1.length = n ∧ (rdI m1 n l e).2.1.length = n := by
  intro n
  induction n with
  | zero => intro l e; exact ⟨rfl, rfl⟩
  | succ n ih => intro l e; simp only [rdI, List.length_cons, (ih _ _).1, (ih _ _).2, and_self]
theorem rdI_inv (m1 : Nat) : ∀ (n : Nat) (l : List UInt8) (e : Int), (rdI m1 n l e).2.2.2 = 0 → e = 0 ∧ l = innL (rdI m1 n l e).1 (rdI m1 n l e).2.1 ++ (rdI m1 n l e).2.2.1 ∧ (∀ s ∈ (rdI m1 n l e).1, s.size ≤ 255) := by
  intro n
  induction n with
  | zero => intro l e h; exact ⟨h, rfl, fun p hp => by cases hp⟩
  | succ n ih =>
    intro l e h
    simp only [rdI] at h ⊢
    obtain ⟨q1, q2, q3⟩ := ih _ _ h
    generalize hb : numE (strE l e m1).2.1 (strE l e m1).2.2 2 = b at q1 q2 q3 h ⊢
    generalize ha : strE l e m1 = a at hb q1 q2 q3 h ⊢
    obtain ⟨b1, b2, b3⟩ := b
    obtain ⟨a1, a2, a3⟩ := a
    simp only at *
    subst q1
    have ha3 : a3 = 0 := by
      rcases Int.decEq a3 0 with h3 | h3
      · rw [numE_bad _ _ _ h3] at hb; simp only [Prod.mk.injEq] at hb; exact absurd hb.2.2 h3
      · exact h3
    subst ha3
    have he : e = 0 := by
      rcases Int.decEq e 0 with h3 | h3
      · rw [strE_bad _ _ _ h3] at ha; simp only [Prod.mk.injEq] at ha; exact absurd ha.2.2 h3
      · exact h3
    subst he
    obtain ⟨i1, i2, i3⟩ := strE_inv _ _ _ _ ha
    obtain ⟨j1, j2, j3⟩ := numE_inv _ _ _ _ (by omega) hb
    rw [show ((256 ^ 2 : Nat) : Int) = 65536 from rfl] at j3
    refine ⟨rfl, ?_, ?_⟩
    · show l = strL (B a1) ++ beN 2 (IntKind.u64.wrap (wrap64 b1)) ++ innL _ _ ++ _
      rw [IntWalk.wrap64_in b1 ⟨by omega, by omega⟩, show IntKind.u64.wrap b1 = b1 by rw [wrapu]; omega, List.append_assoc, List.append_assoc, ← q2, ← j1]; exact i1
    · intro p hp
      rcases List.mem_cons.1 hp with rfl | hp
      · rw [B_size]; exact i3
      · exact q3 p hp
/-! ## what the program reads -/
abbrev TN := Bool × List Pr × List ByteArray × List Int × Int
def badN : TN := (false, [], [], [], 10)
def finN (S : ByteArray) (kind : Int) (leaf : Bool) (ps : List Pr) (ks : List ByteArray) (kids : List Int) (l : List UInt8) (e : Int) : TN :=
  if (kind = 1 ∨ kind = 2) ∧ e = 0 ∧ S.size = 256 ∧ rightN leaf ps ks kids = true ∧ (∀ x ∈ l, x = 0) then (leaf, ps, ks, kids, 0) else badN
theorem p_raw (l : List UInt8) (e : Int) : pack_Reader_Raw.f (B l) e ((B l).size : Int) = some (B (rawE l e l.length).1, B (rawE l e l.length).2.1, (rawE l e l.length).2.2) := by
  unfold pack_Reader_Raw.f
  rw [show mx ((B l).size : Int) 0 = ((l.length : Nat) : Int) by rw [B_size]; unfold mx; split <;> omega, take_go, Option.bind_some]
theorem raw_err (l : List UInt8) (e : Int) : (rawE l e l.length).2.2 = e := by
  unfold rawE
  by_cases h : e = 0
  · rw [if_pos h, if_neg (by omega)]; exact h.symm
  · rw [if_neg h]
theorem fin_p (S : ByteArray) (kind : Int) (leaf : Bool) (ps : List Pr) (ks : List ByteArray) (kids : List Int) (l : List UInt8) (e : Int) (hS : l.length ≤ 140737488351232) (l1 : ps.length ≤ 1000000) (l2 : ks.length ≤ 1000000) (l3 : kids.length ≤ 1000000) {k : Nat} (hk : 10000000 ≤ k) :
    ((pack_Reader_Left.f (B l) e).bind fun bt273 => ((pack_Reader_Raw.f bt273.2.1 bt273.2.2 bt273.1).bind fun bt276 => (if kind = 1 then ((pack_Reader_Err.f bt276.2.1 bt276.2.2).bind fun bt279 => (if bt279.1 = 0 then (if (S.size : Int) = 256 then ((node_right.f k leaf ps ks kids).bind fun t282 => (if t282 = true then ((strings_Trim.f bt276.1 (⟨#[0]⟩ : ByteArray)).bind fun t283 => (node_Read.j2 k (t283.toList != ([] : List UInt8)) leaf ps ks kids)) else (node_Read.j2 k true leaf ps ks kids))) else (node_Read.j2 k true leaf ps ks kids)) else (node_Read.j2 k true leaf ps ks kids))) else (if kind = 2 then ((pack_Reader_Err.f bt276.2.1 bt276.2.2).bind fun bt284 => (if bt284.1 = 0 then (if (S.size : Int) = 256 then ((node_right.f k leaf ps ks kids).bind fun t282 => (if t282 = true then ((strings_Trim.f bt276.1 (⟨#[0]⟩ : ByteArray)).bind fun t283 => (node_Read.j2 k (t283.toList != ([] : List UInt8)) leaf ps ks kids)) else (node_Read.j2 k true leaf ps ks kids))) else (node_Read.j2 k true leaf ps ks kids)) else (node_Read.j2 k true leaf ps ks kids))) else (node_Read.j2 k true leaf ps ks kids))))) = some (finN S kind leaf ps ks kids l e) := by
  have jt : node_Read.j2 k true leaf ps ks kids = some badN := by
    obtain ⟨k, rfl⟩ : ∃ j, k = j + 1 := ⟨k - 1, by omega⟩
    simp only [node_Read.j2]; rfl
  have jf : node_Read.j2 k false leaf ps ks kids = some (leaf, ps, ks, kids, 0) := by
    obtain ⟨k, rfl⟩ : ∃ j, k = j + 1 := ⟨k - 1, by omega⟩
    simp only [node_Read.j2]; rfl
  unfold badN at jt
  unfold pack_Reader_Left.f pack_Reader_Err.f
  rw [Option.bind_some]
  simp only
  rw [p_raw, Option.bind_some]
  simp only [Option.bind_some, raw_err]
  rw [p_right leaf ps ks kids (by unfold BIG; omega) (by unfold BIG; omega) (by unfold BIG; omega) (by omega)]
  simp only [Option.bind_some, jt]
  unfold finN badN
  by_cases he : e = 0
  · subst he
    have hr : (rawE l 0 l.length).1 = l := by unfold rawE; rw [if_pos rfl, if_neg (by omega)]; simp
    have ht : strings_Trim.f (B l) (⟨#[0]⟩ : ByteArray) = some (B (Lib.trimB l 0)) := by
      unfold strings_Trim.f
      rw [if_pos ⟨rfl, by rw [B_size]; omega⟩]
    rw [hr, ht]
    simp only [Option.bind_some, B_list, if_true]
    by_cases hz : ∀ x ∈ l, x = 0
    · rw [(trim_nil l 0).2 hz, show (([] : List UInt8) != []) = false from rfl, jf]
      by_cases hk : kind = 1
      · rw [if_pos hk]; cases rightN leaf ps ks kids <;> by_cases h6 : S.size = 256 <;> simp [hk, h6, hz] <;> omega
      · rw [if_neg hk]
        by_cases hk2 : kind = 2
        · rw [if_pos hk2]; cases rightN leaf ps ks kids <;> by_cases h6 : S.size = 256 <;> simp [hk2, h6, hz] <;> omega
        · rw [if_neg hk2, if_neg (by rintro ⟨h | h, _⟩; exact hk h; exact hk2 h)]
    · have hn : ¬ ((kind = 1 ∨ kind = 2) ∧ True ∧ S.size = 256 ∧ rightN leaf ps ks kids = true ∧ ∀ x ∈ l, x = 0) := fun h => hz h.2.2.2.2
      have hb : (Lib.trimB l 0 != []) = true := by rw [bne_iff_ne]; exact fun h => hz ((trim_nil l 0).1 h)
      rw [hb, jt, if_neg hn]
      (repeat' split) <;> rfl
  · have hn : ¬ ((kind = 1 ∨ kind = 2) ∧ e = 0 ∧ S.size = 256 ∧ rightN leaf ps ks kids = true ∧ ∀ x ∈ l, x = 0) := fun h => he h.2.1
    rw [if_neg hn]
    simp only [if_neg he]
    (repeat' split) <;> rfl
end Go.Proofs.YtokjbncjapndgaaDoor.XN
