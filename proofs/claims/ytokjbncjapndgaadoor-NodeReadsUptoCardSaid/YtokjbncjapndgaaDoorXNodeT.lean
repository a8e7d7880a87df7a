/- Nodes out of pages: the document's answer reads what the program reads, and a node is itself. Plain laws over the printed functions. No conditions. -/
import Derived.Test.YtokjbncjapndgaaDoorXNodeS
namespace Go.Proofs.YtokjbncjapndgaaDoor.XN
open Go.RowKit Go.Proofs.YtokjbncjapndgaaDoor.XW Go.Proofs.YtokjbncjapndgaaDoor.XLib Go.Proofs.YtokjbncjapndgaaDoor.PAll Go.Proofs.YtokjbncjapndgaaDoorW.PrintWords Go.Proofs.YtokjbncjapndgaaDoorW.PrintLast Go.Proofs.YtokjbncjapndgaaDoor.XP
def rdLR : Nat → List UInt8 → Int → List Pr × List UInt8 × Int
  | 0, l, e => ([], l, e)
  | n + 1, l, e => if e = 0 then (⟨B (strE l e 255).1, B (strE (strE l e 255).2.1 (strE l e 255).2.2 255).1⟩ :: (rdLR n (strE (strE l e 255).2.1 (strE l e 255).2.2 255).2.1 (strE (strE l e 255).2.1 (strE l e 255).2.2 255).2.2).1,
      (rdLR n (strE (strE l e 255).2.1 (strE l e 255).2.2 255).2.1 (strE (strE l e 255).2.1 (strE l e 255).2.2 255).2.2).2) else ([], l, e)
def rdIR : Nat → List UInt8 → Int → List ByteArray × List Int × List UInt8 × Int
  | 0, l, e => ([], [], l, e)
  | n + 1, l, e => if e = 0 then (B (strE l e 255).1 :: (rdIR n (numE (strE l e 255).2.1 (strE l e 255).2.2 2).2.1 (numE (strE l e 255).2.1 (strE l e 255).2.2 2).2.2).1,
      wrap64 (numE (strE l e 255).2.1 (strE l e 255).2.2 2).1 :: (rdIR n (numE (strE l e 255).2.1 (strE l e 255).2.2 2).2.1 (numE (strE l e 255).2.1 (strE l e 255).2.2 2).2.2).2.1,
      (rdIR n (numE (strE l e 255).2.1 (strE l e 255).2.2 2).2.1 (numE (strE l e 255).2.1 (strE l e 255).2.2 2).2.2).2.2) else ([], [], l, e)
theorem rdLR_enc : ∀ (ps : List Pr) (b : List UInt8), (∀ p ∈ ps, p.f0.size ≤ 255 ∧ p.f1.size ≤ 255) → rdLR ps.length (leafL ps ++ b) 0 = (ps, b, 0) := by
  intro ps
  induction ps with
  | nil => intro b _; rfl
  | cons p ps ih =>
    intro b h
    obtain ⟨p1, p2⟩ := h p (by simp)
    have e1 : strE (leafL (p :: ps) ++ b) 0 255 = (p.f0.data.toList, strL p.f1 ++ (leafL ps ++ b), 0) := by
      rw [leafL_cons, List.append_assoc, List.append_assoc]; exact strE_enc _ _ _ p1 (by omega)
    have e2 := strE_enc p.f1 (leafL ps ++ b) 255 p2 (by omega)
    rw [List.length_cons]
    simp only [rdLR, e1, e2, if_true]
    rw [ih b (fun q hq => h q (by simp [hq])), ← of_B, ← of_B]
theorem rdIR_enc : ∀ (ks : List ByteArray) (cs : List Int) (b : List UInt8), ks.length = cs.length → (∀ s ∈ ks, s.size ≤ 255) → (∀ c ∈ cs, 0 ≤ c ∧ c < 65536) → rdIR ks.length (innL ks cs ++ b) 0 = (ks, cs, b, 0) := by
  intro ks
  induction ks with
  | nil => intro cs b hl _ _; cases cs with
    | nil => rfl
    | cons c cs => simp at hl
  | cons s ks ih =>
    intro cs b hl hs hc
    cases cs with
    | nil => simp at hl
    | cons c cs =>
      obtain ⟨c0, c1⟩ := hc c (by simp)
      have e1 : strE (innL (s :: ks) (c :: cs) ++ b) 0 255 = (s.data.toList, beN 2 (IntKind.u64.wrap c) ++ (innL ks cs ++ b), 0) := by
        show strE (strL s ++ beN 2 (IntKind.u64.wrap c) ++ innL ks cs ++ b) 0 255 = _
        rw [List.append_assoc, List.append_assoc]; exact strE_enc _ _ _ (hs s (by simp)) (by omega)
      have ew : IntKind.u64.wrap c = c := by rw [wrapu]; omega
      have e2 := numE_enc c (innL ks cs ++ b) 2 (by omega) c0 (by simpa using c1)
      rw [ew] at e1
      rw [List.length_cons]
      simp only [rdIR, e1, e2, if_true]
      rw [ih cs b (by simpa using hl) (fun q hq => hs q (by simp [hq])) (fun q hq => hc q (by simp [hq])), ← of_B, IntWalk.wrap64_in c ⟨by omega, by omega⟩]
def finR (S : ByteArray) (leaf : Bool) (ps : List Pr) (ks : List ByteArray) (kids : List Int) (e : Int) : TN :=
  if e = 0 ∧ writeN leaf ps ks kids = (S, 0) then (leaf, ps, ks, kids, 0) else badN
theorem small_bd (ps : List Pr) (ks : List ByteArray) (kids : List Int) (l1 : ps.length ≤ 1000) (l2 : ks.length ≤ 1000) (l3 : kids.length ≤ 2000) (h1 : ∀ p ∈ ps, wp p ≤ 512) (h2 : ∀ s ∈ ks, wk s ≤ 512) : Bd ps ks kids := by
  have g1 : ∀ (ps : List Pr), (∀ p ∈ ps, wp p ≤ 512) → sumP ps ≤ 512 * ps.length := by
    intro ps
    induction ps with
    | nil => intro _; exact Nat.zero_le _
    | cons p ps ih => intro h; have a := h p (by simp); have b := ih (fun q hq => h q (by simp [hq])); rw [sumP_cons, List.length_cons]; omega
  have g2 : ∀ (ks : List ByteArray), (∀ p ∈ ks, wk p ≤ 512) → sumK ks ≤ 512 * ks.length := by
    intro ks
    induction ks with
    | nil => intro _; exact Nat.zero_le _
    | cons p ps ih => intro h; have a := h p (by simp); have b := ih (fun q hq => h q (by simp [hq])); rw [sumK_cons, List.length_cons]; omega
  have a := g1 ps h1
  have b := g2 ks h2
  exact ⟨by omega, by omega, by omega⟩
theorem fin_r (S : ByteArray) (leaf : Bool) (ps : List Pr) (ks : List ByteArray) (kids : List Int) (e : Int) (h : Bd ps ks kids) {k : Nat} (hk : FUEL ≤ k) :
    ((factotumref09_Write.f k leaf ps ks kids).bind fun bt377 => (if e = 0 then (if bt377.2 = 0 then (if bt377.1.toList = S.toList then (some (leaf, ps, ks, kids, (0 : Int))) else (some (false, ([] : List Pr), ([] : List ByteArray), ([] : List Int), 10))) else (some (false, ([] : List Pr), ([] : List ByteArray), ([] : List Int), 10))) else (some (false, ([] : List Pr), ([] : List ByteArray), ([] : List Int), 10)))) = some (finR S leaf ps ks kids e) := by
  rw [r_write leaf ps ks kids h hk, Option.bind_some]
  unfold finR badN
  generalize writeN leaf ps ks kids = w
  obtain ⟨w1, w2⟩ := w
  simp only [Prod.mk.injEq]
  by_cases h1 : e = 0
  · by_cases h2 : w2 = 0
    · by_cases h3 : w1.toList = S.toList
      · have : w1 = S := ext (by rw [← Lib.toList_data, ← Lib.toList_data]; exact h3)
        rw [if_pos h1, if_pos h2, if_pos h3, if_pos ⟨h1, this, h2⟩]
      · rw [if_pos h1, if_pos h2, if_neg h3, if_neg (fun h => h3 (by rw [h.2.1]))]
    · rw [if_pos h1, if_neg h2, if_neg (fun h => h2 h.2.2)]
  · rw [if_neg h1, if_neg (fun h => h1 h.1)]
theorem strE_wk (l : List UInt8) (e : Int) (m : Nat) : (B (strE l e m).1).size ≤ 255 := by rw [B_size]; exact strE_len l e m
theorem rread_leaf (S : ByteArray) (hS : S.size ≤ 140737488351232) (cnt : Nat) (hc : cnt ≤ 255) : ∀ (m i k : Nat) (acc : List Pr) (l : List UInt8) (e : Int), i + m = cnt → acc.length = i → (∀ p ∈ acc, wp p ≤ 512) → Suf S l → FUEL ≤ k →
    factotumref09_Read.l0 (k + 2 * m + 2) S (cnt : Int) (i : Int) S (pos S l) e true acc = some (finR S true (acc ++ (rdLR m l e).1) [] [] (rdLR m l e).2.2) := by
  intro m
  induction m with
  | zero =>
    intro i k acc l e hi ha hp h hk
    show factotumref09_Read.l0 ((k + 1) + 1) _ _ _ _ _ _ _ _ = _
    generalize hK : k + 1 = K
    simp only [factotumref09_Read.l0]
    subst hK
    simp only [factotumref09_Read.j1]
    rw [if_neg (by omega), if_neg (by decide), show (rdLR 0 l e) = ([], l, e) from rfl, List.append_nil]
    exact fin_r S true acc [] [] e (small_bd _ _ _ (by omega) (by simp) (by simp) hp (by simp)) hk
  | succ m ih =>
    intro i k acc l e hi ha hp h hk
    rw [show k + 2 * (m + 1) + 2 = ((k + 2 * m + 2) + 1) + 1 by omega]
    generalize hK : k + 2 * m + 2 = K
    generalize hK2 : K + 1 = K2
    simp only [factotumref09_Read.l0]
    subst hK2
    rw [if_pos (by omega)]
    by_cases he : e = 0
    · subst he
      have s1 := h.step (strE_suf l 0 255)
      simp only [factotumref09_Read.j1]
      rw [if_pos (by decide), show (255 : Int) = ((255 : Nat) : Int) from rfl, rRstr 0 255 (by omega) h, Option.bind_some]
      simp only
      rw [rRstr _ 255 (by omega) s1, Option.bind_some, if_pos (by omega), nextu i (by omega)]
      simp only
      subst hK
      have w1 := strE_wk l 0 255
      have w2 := strE_wk (strE l 0 255).2.1 (strE l 0 255).2.2 255
      rw [ih (i + 1) k _ _ _ (by omega) (by rw [List.length_append, List.length_singleton]; omega) (by
        intro p hq
        rcases List.mem_append.1 hq with hq | hq
        · exact hp p hq
        · obtain rfl := List.mem_singleton.1 hq
          show 2 + (B _).size + (B _).size ≤ 512
          omega) (s1.step (strE_suf _ _ _)) hk]
      simp only [rdLR, if_true, List.append_assoc, List.singleton_append]
    · have hb : (e == 0) = false := by rw [beq_eq_false_iff_ne]; exact he
      rw [hb]
      simp only [factotumref09_Read.j1]
      have e0 : rdLR (m + 1) l e = ([], l, e) := by simp only [rdLR]; rw [if_neg he]
      rw [if_neg (by decide), e0, List.append_nil]
      exact fin_r S true acc [] [] e (small_bd _ _ _ (by omega) (by simp) (by simp) hp (by simp)) (by omega)
theorem rread_inner (S : ByteArray) (hS : S.size ≤ 140737488351232) (cnt : Nat) (hc : cnt ≤ 255) : ∀ (m i k : Nat) (acc : List ByteArray) (kids : List Int) (l : List UInt8) (e : Int), i + m = cnt → acc.length = i → kids.length ≤ i + 10 → (∀ p ∈ acc, wk p ≤ 512) → Suf S l → FUEL ≤ k →
    factotumref09_Read.l1 (k + 2 * m + 2) S (cnt : Int) (i : Int) S (pos S l) e false acc kids = some (finR S false [] (acc ++ (rdIR m l e).1) (kids ++ (rdIR m l e).2.1) (rdIR m l e).2.2.2) := by
  intro m
  induction m with
  | zero =>
    intro i k acc kids l e hi ha hkk hp h hk
    show factotumref09_Read.l1 ((k + 1) + 1) _ _ _ _ _ _ _ _ _ = _
    generalize hK : k + 1 = K
    simp only [factotumref09_Read.l1]
    subst hK
    simp only [factotumref09_Read.j3]
    rw [if_neg (by omega), if_neg (by decide), show (rdIR 0 l e) = ([], [], l, e) from rfl, List.append_nil, List.append_nil]
    exact fin_r S false [] acc kids e (small_bd _ _ _ (by simp) (by omega) (by omega) (by simp) hp) hk
  | succ m ih =>
    intro i k acc kids l e hi ha hkk hp h hk
    rw [show k + 2 * (m + 1) + 2 = ((k + 2 * m + 2) + 1) + 1 by omega]
    generalize hK : k + 2 * m + 2 = K
    generalize hK2 : K + 1 = K2
    simp only [factotumref09_Read.l1]
    subst hK2
    rw [if_pos (by omega)]
    by_cases he : e = 0
    · subst he
      have s1 := h.step (strE_suf l 0 255)
      obtain ⟨j, hj⟩ : ∃ j, K = j + 9 := ⟨K - 9, by unfold FUEL at hk; omega⟩
      simp only [factotumref09_Read.j3]
      rw [if_pos (by decide), show (255 : Int) = ((255 : Nat) : Int) from rfl, rRstr 0 255 (by omega) h, Option.bind_some]
      simp only
      have hn := rRnum j (strE l 0 255).2.2 2 (by omega) (by omega) s1
      rw [← hj] at hn
      rw [show (2 : Int) = ((2 : Nat) : Int) from rfl, hn, Option.bind_some, if_pos (by omega), if_pos (by omega), nextu i (by omega)]
      simp only
      subst hK
      have w1 := strE_wk l 0 255
      rw [ih (i + 1) k _ _ _ _ (by omega) (by rw [List.length_append, List.length_singleton]; omega) (by rw [List.length_append, List.length_singleton]; omega) (by
        intro p hq
        rcases List.mem_append.1 hq with hq | hq
        · exact hp p hq
        · obtain rfl := List.mem_singleton.1 hq
          show 3 + (B _).size ≤ 512
          omega) (s1.step (numE_suf _ _ _)) hk]
      simp only [rdIR, if_true, List.append_assoc, List.singleton_append]
    · have hb : (e == 0) = false := by rw [beq_eq_false_iff_ne]; exact he
      rw [hb]
      simp only [factotumref09_Read.j3]
      have e0 : rdIR (m + 1) l e = ([], [], l, e) := by simp only [rdIR]; rw [if_neg he]
      rw [if_neg (by decide), e0, List.append_nil, List.append_nil]
      exact fin_r S false [] acc kids e (small_bd _ _ _ (by simp) (by omega) (by omega) (by simp) hp) (by omega)
def readR (S : ByteArray) : TN :=
  if (numE S.data.toList 0 1).1 = 1 then
    finR S true (rdLR (numE (numE S.data.toList 0 1).2.1 (numE S.data.toList 0 1).2.2 1).1.toNat (numE (numE S.data.toList 0 1).2.1 (numE S.data.toList 0 1).2.2 1).2.1 (numE (numE S.data.toList 0 1).2.1 (numE S.data.toList 0 1).2.2 1).2.2).1 [] []
      (rdLR (numE (numE S.data.toList 0 1).2.1 (numE S.data.toList 0 1).2.2 1).1.toNat (numE (numE S.data.toList 0 1).2.1 (numE S.data.toList 0 1).2.2 1).2.1 (numE (numE S.data.toList 0 1).2.1 (numE S.data.toList 0 1).2.2 1).2.2).2.2
  else
    finR S false [] (rdIR (numE (numE S.data.toList 0 1).2.1 (numE S.data.toList 0 1).2.2 1).1.toNat (numE (numE (numE S.data.toList 0 1).2.1 (numE S.data.toList 0 1).2.2 1).2.1 (numE (numE S.data.toList 0 1).2.1 (numE S.data.toList 0 1).2.2 1).2.2 2).2.1 (numE (numE (numE S.data.toList 0 1).2.1 (numE S.data.toList 0 1).2.2 1).2.1 (numE (numE S.data.toList 0 1).2.1 (numE S.data.toList 0 1).2.2 1).2.2 2).2.2).1
      (wrap64 (numE (numE (numE S.data.toList 0 1).2.1 (numE S.data.toList 0 1).2.2 1).2.1 (numE (numE S.data.toList 0 1).2.1 (numE S.data.toList 0 1).2.2 1).2.2 2).1 :: (rdIR (numE (numE S.data.toList 0 1).2.1 (numE S.data.toList 0 1).2.2 1).1.toNat (numE (numE (numE S.data.toList 0 1).2.1 (numE S.data.toList 0 1).2.2 1).2.1 (numE (numE S.data.toList 0 1).2.1 (numE S.data.toList 0 1).2.2 1).2.2 2).2.1 (numE (numE (numE S.data.toList 0 1).2.1 (numE S.data.toList 0 1).2.2 1).2.1 (numE (numE S.data.toList 0 1).2.1 (numE S.data.toList 0 1).2.2 1).2.2 2).2.2).2.1)
      (rdIR (numE (numE S.data.toList 0 1).2.1 (numE S.data.toList 0 1).2.2 1).1.toNat (numE (numE (numE S.data.toList 0 1).2.1 (numE S.data.toList 0 1).2.2 1).2.1 (numE (numE S.data.toList 0 1).2.1 (numE S.data.toList 0 1).2.2 1).2.2 2).2.1 (numE (numE (numE S.data.toList 0 1).2.1 (numE S.data.toList 0 1).2.2 1).2.1 (numE (numE S.data.toList 0 1).2.1 (numE S.data.toList 0 1).2.2 1).2.2 2).2.2).2.2.2
theorem r_read (S : ByteArray) (hS : S.size ≤ 140737488351232) {k : Nat} (hk : FUEL + 1000 ≤ k) : factotumref09_Read.f k S = some (readR S) := by
  have hkk := hk
  unfold FUEL at hkk
  unfold factotumref09_Read.f readR
  have p0 : pos S S.data.toList = 0 := by unfold pos; rw [← Lib.size_eq]; omega
  have u0 := Suf.whole S
  have n1 := rRnum (k - 9) 0 1 (by omega) (by omega) u0
  rw [p0, show k - 9 + 9 = k by omega] at n1
  rw [show factotumref01_Reader_Num.f k S 0 0 1 = _ from n1, Option.bind_some]
  simp only
  have u1 := u0.step (numE_suf S.data.toList 0 1)
  have b1 := numE_bd S.data.toList 0 1 (by omega)
  generalize numE S.data.toList 0 1 = x at u1 b1 ⊢
  have n2 := rRnum (k - 9) x.2.2 1 (by omega) (by omega) u1
  rw [show k - 9 + 9 = k by omega] at n2
  rw [show factotumref01_Reader_Num.f k S (pos S x.2.1) x.2.2 1 = _ from n2, Option.bind_some]
  simp only
  have u2 := u1.step (numE_suf x.2.1 x.2.2 1)
  have b2 := numE_bd x.2.1 x.2.2 1 (by omega)
  generalize numE x.2.1 x.2.2 1 = y at u2 b2 ⊢
  rw [show ((256 ^ 1 : Nat) : Int) = 256 from rfl] at b1 b2
  obtain ⟨c, hc⟩ : ∃ c : Nat, y.1 = (c : Int) := ⟨y.1.toNat, by omega⟩
  rw [hc, Int.toNat_natCast]
  by_cases h1 : x.1 = 1
  · rw [if_pos h1, if_pos h1]
    have := rread_leaf S hS c (by omega) c 0 (k - 2 * c - 2) [] y.2.1 y.2.2 (by omega) rfl (by simp) u2 (by unfold FUEL; omega)
    rw [show k - 2 * c - 2 + 2 * c + 2 = k by omega] at this
    exact this
  · rw [if_neg h1, if_neg h1]
    have n3 := rRnum (k - 9) y.2.2 2 (by omega) (by omega) u2
    rw [show k - 9 + 9 = k by omega] at n3
    rw [show factotumref01_Reader_Num.f k S (pos S y.2.1) y.2.2 2 = _ from n3, Option.bind_some]
    simp only [List.nil_append]
    have u3 := u2.step (numE_suf y.2.1 y.2.2 2)
    generalize numE y.2.1 y.2.2 2 = z at u3 ⊢
    rw [if_pos (by simp)]
    have := rread_inner S hS c (by omega) c 0 (k - 2 * c - 2) [] [wrap64 z.1] z.2.1 z.2.2 (by omega) rfl (by simp) (by simp) u3 (by unfold FUEL; omega)
    rw [show k - 2 * c - 2 + 2 * c + 2 = k by omega] at this
    exact this
theorem finR_ok {S : ByteArray} {leaf : Bool} {ps : List Pr} {ks : List ByteArray} {kids : List Int} {e : Int} (h : (finR S leaf ps ks kids e).2.2.2.2 = 0) :
    finR S leaf ps ks kids e = (leaf, ps, ks, kids, 0) ∧ writeN leaf ps ks kids = (S, 0) := by
  unfold finR at h ⊢
  split at h
  · rename_i hc
    rw [if_pos hc]; exact ⟨rfl, hc.2⟩
  · simp [badN] at h
theorem finR_bad {S : ByteArray} {leaf : Bool} {ps : List Pr} {ks : List ByteArray} {kids : List Int} {e : Int} (h : ¬ (finR S leaf ps ks kids e).2.2.2.2 = 0) : finR S leaf ps ks kids e = badN := by
  unfold finR at h ⊢
  split at h
  · exact absurd rfl h
  · rename_i hc; rw [if_neg hc]
theorem r_bad (S : ByteArray) (h : ¬ (readR S).2.2.2.2 = 0) : readR S = badN := by
  unfold readR at h ⊢
  split at h
  · rename_i h1; rw [if_pos h1]; exact finR_bad h
  · rename_i h1; rw [if_neg h1]; exact finR_bad h
theorem r_sound (S : ByteArray) (h : (readR S).2.2.2.2 = 0) : writeN (readR S).1 (readR S).2.1 (readR S).2.2.1 (readR S).2.2.2.1 = (S, 0) := by
  unfold readR at h ⊢
  split at h
  · rename_i h1; rw [if_pos h1]; obtain ⟨e, w⟩ := finR_ok h; rw [e]; exact w
  · rename_i h1; rw [if_neg h1]; obtain ⟨e, w⟩ := finR_ok h; rw [e]; exact w
theorem writeN_page {leaf : Bool} {ps : List Pr} {ks : List ByteArray} {kids : List Int} (h : rightN leaf ps ks kids = true) (hs : sizeN leaf ps ks ≤ 256) : writeN leaf ps ks kids = (B (pageN leaf ps ks kids), 0) := by
  unfold writeN
  rw [if_pos h, if_neg (by omega)]
theorem r_complete (leaf : Bool) (ps : List Pr) (ks : List ByteArray) (kids : List Int) (h : rightN leaf ps ks kids = true) (hs : sizeN leaf ps ks ≤ 256) : readR (B (pageN leaf ps ks kids)) = (leaf, ps, ks, kids, 0) := by
  have hw := writeN_page h hs
  unfold sizeN at hs
  cases leaf with
  | true =>
    rw [if_pos rfl] at hs
    obtain ⟨rfl, rfl, hp⟩ := right_leaf_of h
    have h2 := sumP_two ps
    have e : pageN true ps [] [] = 1 :: byt ps.length :: (leafL ps ++ List.replicate (256 - ([1, byt ps.length] ++ leafL ps).length) 0) := by
      unfold pageN pad; rw [if_pos rfl]; simp
    unfold readR
    rw [B_data, e, numE_one]
    simp only
    rw [if_pos (by decide), numE_one]
    simp only
    rw [byt_nat _ (by omega), Int.toNat_natCast, rdLR_enc ps _ (fun p hq => by have := hp p hq; omega)]
    unfold finR
    rw [if_pos ⟨rfl, by rw [← e]; exact hw⟩]
  | false =>
    rw [if_neg (show ¬ (false = true) by decide)] at hs
    obtain ⟨rfl, hkl, hk, hc⟩ := right_inner_of h
    cases kids with
    | nil => simp at hkl
    | cons c cs =>
      have hcl : ks.length = cs.length := by simpa using hkl.symm
      have h2 := len_sumK ks
      obtain ⟨c0, c1⟩ := hc c (by simp)
      have ew : IntKind.u64.wrap c = c := by rw [wrapu]; omega
      have e : pageN false [] ks (c :: cs) = 2 :: byt ks.length :: (beN 2 c ++ (innL ks cs ++ List.replicate (256 - ([2, byt ks.length] ++ beN 2 (IntKind.u64.wrap c) ++ innL ks cs).length) 0)) := by
        unfold pageN pad; rw [if_neg (show ¬ (false = true) by decide)]; simp [ew]
      unfold readR
      rw [B_data, e, numE_one]
      simp only
      rw [if_neg (by decide), numE_one]
      simp only
      rw [byt_nat _ (by omega), Int.toNat_natCast, numE_enc c _ 2 (by omega) (by omega) (by rw [show ((256 ^ 2 : Nat) : Int) = 65536 from rfl]; omega)]
      simp only
      rw [rdIR_enc ks cs _ hcl (fun q hq => by have := hk q hq; omega) (fun q hq => by have := hc q (by simp [hq]); omega), IntWalk.wrap64_in c ⟨by omega, by omega⟩]
      unfold finR
      rw [if_pos ⟨rfl, by rw [← e]; exact hw⟩]
theorem five (t : TN) (h : t.2.2.2.2 = 0) : t = (t.1, t.2.1, t.2.2.1, t.2.2.2.1, 0) := by
  obtain ⟨a, b, c, d, e⟩ := t
  simp only at h; rw [h]
theorem same_read (S : ByteArray) : readP S = readR S := by
  by_cases hp : (readP S).2.2.2.2 = 0
  · have hw := p_sound S hp
    obtain ⟨q1, q2, q3⟩ := writeN_ok hw
    have := r_complete _ _ _ _ q1 q2
    rw [← q3] at this
    rw [this]; exact five _ hp
  · have e := p_bad S hp
    by_cases hr : (readR S).2.2.2.2 = 0
    · have hw := r_sound S hr
      obtain ⟨q1, q2, q3⟩ := writeN_ok hw
      have := p_complete _ _ _ _ q1 q2
      rw [← q3] at this
      rw [this] at hp
      exact absurd rfl hp
    · rw [e, r_bad S hr]
/-- what is read is small -/
theorem read_bd (S : ByteArray) : Bd (readP S).2.1 (readP S).2.2.1 (readP S).2.2.2.1 := by
  by_cases hp : (readP S).2.2.2.2 = 0
  · obtain ⟨q1, q2, _⟩ := writeN_ok (p_sound S hp)
    generalize readP S = t at *
    obtain ⟨leaf, ps, ks, kids, e⟩ := t
    simp only at *
    unfold sizeN at q2
    have h1 := len_sumK ks
    cases leaf with
    | true =>
      rw [if_pos rfl] at q2
      obtain ⟨rfl, rfl, _⟩ := right_leaf_of q1
      exact ⟨by omega, Nat.zero_le _, Nat.zero_le _⟩
    | false =>
      rw [if_neg (show ¬ (false = true) by decide)] at q2
      obtain ⟨rfl, hl, _⟩ := right_inner_of q1
      exact ⟨Nat.zero_le _, by omega, by omega⟩
  · rw [p_bad S hp]; exact ⟨Nat.zero_le _, Nat.zero_le _, Nat.zero_le _⟩
/-! ## a node is itself -/
theorem same2 (a : Bool) (ps : List Pr) (ks : List ByteArray) (kids : List Int) (hl : kids.length ≤ BIG) : ∀ m i k : Nat, i + m = kids.length → factotumref09_Same.l2 (k + m + 1) (i : Int) a ps ks kids a ps ks kids = some true := by
  unfold BIG at hl
  intro m
  induction m with
  | zero =>
    intro i k hi
    simp only [factotumref09_Same.l2]
    rw [if_neg (by omega)]
  | succ m ih =>
    intro i k hi
    rw [show k + (m + 1) + 1 = (k + m + 1) + 1 by omega]
    generalize hK : k + m + 1 = K
    simp only [factotumref09_Same.l2]
    subst hK
    rw [if_pos (by omega), if_pos (by omega), if_pos (by omega), if_pos trivial, nexti i (by omega), ih (i + 1) k (by omega)]
theorem same1 (a : Bool) (ps : List Pr) (ks : List ByteArray) (kids : List Int) (hk : ks.length ≤ BIG) (hl : kids.length ≤ BIG) : ∀ m i k : Nat, i + m = ks.length → kids.length + 1 ≤ k → factotumref09_Same.l1 (k + m + 1) (i : Int) a ps ks kids a ps ks kids = some true := by
  have hk' := hk
  unfold BIG at hk'
  intro m
  induction m with
  | zero =>
    intro i k hi hf
    simp only [factotumref09_Same.l1]
    rw [if_neg (by omega)]
    have := same2 a ps ks kids hl kids.length 0 (k - kids.length - 1) (by omega)
    rw [show k - kids.length - 1 + kids.length + 1 = k by omega] at this
    exact this
  | succ m ih =>
    intro i k hi hf
    rw [show k + (m + 1) + 1 = (k + m + 1) + 1 by omega]
    generalize hK : k + m + 1 = K
    simp only [factotumref09_Same.l1]
    subst hK
    rw [if_pos (by omega), if_pos (by omega), if_pos (by omega), if_pos trivial, nexti i (by omega), ih (i + 1) k (by omega) hf]
theorem same0 (a : Bool) (ps : List Pr) (ks : List ByteArray) (kids : List Int) (hp : ps.length ≤ BIG) (hk : ks.length ≤ BIG) (hl : kids.length ≤ BIG) : ∀ m i k : Nat, i + m = ps.length → ks.length + kids.length + 2 ≤ k → factotumref09_Same.l0 (k + m + 1) (i : Int) a ps ks kids a ps ks kids = some true := by
  have hp' := hp
  unfold BIG at hp'
  intro m
  induction m with
  | zero =>
    intro i k hi hf
    simp only [factotumref09_Same.l0]
    rw [if_neg (by omega)]
    have := same1 a ps ks kids hk hl ks.length 0 (k - ks.length - 1) (by omega) (by omega)
    rw [show k - ks.length - 1 + ks.length + 1 = k by omega] at this
    exact this
  | succ m ih =>
    intro i k hi hf
    rw [show k + (m + 1) + 1 = (k + m + 1) + 1 by omega]
    generalize hK : k + m + 1 = K
    simp only [factotumref09_Same.l0]
    subst hK
    rw [if_pos (by omega), if_pos (by omega), if_pos (by omega), if_neg (by simp), nexti i (by omega), ih (i + 1) k (by omega) hf]
theorem same (a : Bool) (ps : List Pr) (ks : List ByteArray) (kids : List Int) (hp : ps.length ≤ BIG) (hk : ks.length ≤ BIG) (hl : kids.length ≤ BIG) {k : Nat} (hf : ps.length + ks.length + kids.length + 5 ≤ k) : factotumref09_Same.f k a ps ks kids a ps ks kids = some true := by
  unfold factotumref09_Same.f
  obtain ⟨k, rfl⟩ : ∃ j, k = j + 1 := ⟨k - 1, by omega⟩
  rw [if_neg (by simp), if_pos rfl, if_pos rfl]
  simp only [factotumref09_Same.j0]
  rw [if_neg (by simp)]
  have := same0 a ps ks kids hp hk hl ps.length 0 (k - ps.length - 1) (by omega) (by omega)
  rw [show k - ps.length - 1 + ps.length + 1 = k by omega] at this
  exact this
theorem bd_len {ps : List Pr} {ks : List ByteArray} {kids : List Int} (h : Bd ps ks kids) : ps.length ≤ 10000000 ∧ ks.length ≤ 10000000 ∧ kids.length ≤ 10000000 := by
  have a := len_sumP ps
  have b := len_sumK ks
  obtain ⟨h1, h2, h3⟩ := h
  exact ⟨by omega, by omega, by omega⟩
theorem same_ (a : Bool) (ps : List Pr) (ks : List ByteArray) (kids : List Int) (h : Bd ps ks kids) {k : Nat} (hk : FUEL ≤ k) : factotumref09_Same.f k a ps ks kids a ps ks kids = some true := by
  obtain ⟨h1, h2, h3⟩ := bd_len h
  unfold FUEL at hk
  exact same a ps ks kids (by unfold BIG; omega) (by unfold BIG; omega) (by unfold BIG; omega) (by omega)
end Go.Proofs.YtokjbncjapndgaaDoor.XN
