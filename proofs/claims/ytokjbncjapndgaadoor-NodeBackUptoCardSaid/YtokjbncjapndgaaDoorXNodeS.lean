/- Nodes out of pages: there and back; the program and the document's answer read the same. Plain laws over the printed functions. No conditions. -/
import Derived.Test.YtokjbncjapndgaaDoorXNodeR
namespace Go.Proofs.YtokjbncjapndgaaDoor.XN
open Go.RowKit Go.Proofs.YtokjbncjapndgaaDoor.XW Go.Proofs.YtokjbncjapndgaaDoor.XLib Go.Proofs.YtokjbncjapndgaaDoor.PAll Go.Proofs.YtokjbncjapndgaaDoorW.PrintWords Go.Proofs.YtokjbncjapndgaaDoorW.PrintLast Go.Proofs.YtokjbncjapndgaaDoor.XP
set_option linter.unusedVariables false
theorem nextu (i : Nat) (h : i < 140737488355328) : IntKind.u64.wrap ((i : Int) + 1) = ((i + 1 : Nat) : Int) := by rw [wrapu]; omega
theorem strE_le (l : List UInt8) (e : Int) (m : Nat) : (strE l e m).2.1.length ≤ l.length := by
  obtain ⟨p, hp⟩ := strE_suf l e m
  have := congrArg List.length hp
  rw [List.length_append] at this; omega
theorem numE_le (l : List UInt8) (e : Int) (m : Nat) : (numE l e m).2.1.length ≤ l.length := by
  obtain ⟨p, hp⟩ := numE_suf l e m
  have := congrArg List.length hp
  rw [List.length_append] at this; omega
theorem read_leaf (S : ByteArray) (kind : Int) (cnt : Nat) (hc : cnt ≤ 255) (kids : List Int) (hk3 : kids.length ≤ 10) : ∀ (m i k : Nat) (acc : List Pr) (l : List UInt8) (e : Int), i + m = cnt → acc.length = i → l.length ≤ 140737488351232 → 10000000 ≤ k →
    node_Read.l0 (k + m + 1) S kind (cnt : Int) (i : Int) (B l) e true acc [] kids = some (finN S kind true (acc ++ (rdL 32 40 m l e).1) [] kids (rdL 32 40 m l e).2.1 (rdL 32 40 m l e).2.2) := by
  intro m
  induction m with
  | zero =>
    intro i k acc l e hi ha hl hk
    simp only [node_Read.l0]
    rw [if_neg (by omega), show (rdL 32 40 0 l e) = ([], l, e) from rfl, List.append_nil]
    exact fin_p S kind true acc [] kids l e hl (by omega) (Nat.zero_le _) (by omega) hk
  | succ m ih =>
    intro i k acc l e hi ha hl hk
    rw [show k + (m + 1) + 1 = (k + m + 1) + 1 by omega]
    generalize hK : k + m + 1 = K
    simp only [node_Read.l0]
    subst hK
    have l1 := strE_le l e 32
    have l2 := strE_le (strE l e 32).2.1 (strE l e 32).2.2 40
    rw [if_pos (by omega), show (32 : Int) = ((32 : Nat) : Int) from rfl, pRstr, Option.bind_some, if_pos trivial, show (40 : Int) = ((40 : Nat) : Int) from rfl]
    simp only
    rw [pRstr, Option.bind_some, if_pos (by omega), nextu i (by omega)]
    rw [ih (i + 1) k _ _ _ (by omega) (by rw [List.length_append, List.length_singleton]; omega) (by omega) hk]
    simp only [rdL, List.append_assoc, List.singleton_append]
theorem read_inner (S : ByteArray) (kind : Int) (cnt : Nat) (hc : cnt ≤ 255) : ∀ (m i k : Nat) (acc : List ByteArray) (kids : List Int) (l : List UInt8) (e : Int), i + m = cnt → acc.length = i → kids.length ≤ i + 10 → l.length ≤ 140737488351232 → 10000000 ≤ k →
    node_Read.l0 (k + m + 1) S kind (cnt : Int) (i : Int) (B l) e false [] acc kids = some (finN S kind false [] (acc ++ (rdI 32 m l e).1) (kids ++ (rdI 32 m l e).2.1) (rdI 32 m l e).2.2.1 (rdI 32 m l e).2.2.2) := by
  intro m
  induction m with
  | zero =>
    intro i k acc kids l e hi ha hc3 hl hk
    simp only [node_Read.l0]
    rw [if_neg (by omega), show (rdI 32 0 l e) = ([], [], l, e) from rfl, List.append_nil, List.append_nil]
    exact fin_p S kind false [] acc kids l e hl (Nat.zero_le _) (by omega) (by omega) hk
  | succ m ih =>
    intro i k acc kids l e hi ha hc3 hl hk
    rw [show k + (m + 1) + 1 = (k + m + 1) + 1 by omega]
    generalize hK : k + m + 1 = K
    simp only [node_Read.l0]
    subst hK
    have l1 := strE_le l e 32
    have l2 := numE_le (strE l e 32).2.1 (strE l e 32).2.2 2
    rw [if_pos (by omega), show (32 : Int) = ((32 : Nat) : Int) from rfl, pRstr, Option.bind_some, if_neg (by decide), if_pos (by omega), show (2 : Int) = ((2 : Nat) : Int) from rfl]
    simp only
    rw [pRnum _ _ 2 (by omega), Option.bind_some, if_pos (by omega), nextu i (by omega)]
    rw [ih (i + 1) k _ _ _ _ (by omega) (by rw [List.length_append, List.length_singleton]; omega) (by rw [List.length_append, List.length_singleton]; omega) (by omega) hk]
    simp only [rdI, List.append_assoc, List.singleton_append]
def readP (S : ByteArray) : TN :=
  if (numE S.data.toList 0 1).1 = 2 then
    finN S 2 false [] (rdI 32 (numE (numE S.data.toList 0 1).2.1 (numE S.data.toList 0 1).2.2 1).1.toNat (numE (numE (numE S.data.toList 0 1).2.1 (numE S.data.toList 0 1).2.2 1).2.1 (numE (numE S.data.toList 0 1).2.1 (numE S.data.toList 0 1).2.2 1).2.2 2).2.1 (numE (numE (numE S.data.toList 0 1).2.1 (numE S.data.toList 0 1).2.2 1).2.1 (numE (numE S.data.toList 0 1).2.1 (numE S.data.toList 0 1).2.2 1).2.2 2).2.2).1
      (wrap64 (numE (numE (numE S.data.toList 0 1).2.1 (numE S.data.toList 0 1).2.2 1).2.1 (numE (numE S.data.toList 0 1).2.1 (numE S.data.toList 0 1).2.2 1).2.2 2).1 :: (rdI 32 (numE (numE S.data.toList 0 1).2.1 (numE S.data.toList 0 1).2.2 1).1.toNat (numE (numE (numE S.data.toList 0 1).2.1 (numE S.data.toList 0 1).2.2 1).2.1 (numE (numE S.data.toList 0 1).2.1 (numE S.data.toList 0 1).2.2 1).2.2 2).2.1 (numE (numE (numE S.data.toList 0 1).2.1 (numE S.data.toList 0 1).2.2 1).2.1 (numE (numE S.data.toList 0 1).2.1 (numE S.data.toList 0 1).2.2 1).2.2 2).2.2).2.1)
      (rdI 32 (numE (numE S.data.toList 0 1).2.1 (numE S.data.toList 0 1).2.2 1).1.toNat (numE (numE (numE S.data.toList 0 1).2.1 (numE S.data.toList 0 1).2.2 1).2.1 (numE (numE S.data.toList 0 1).2.1 (numE S.data.toList 0 1).2.2 1).2.2 2).2.1 (numE (numE (numE S.data.toList 0 1).2.1 (numE S.data.toList 0 1).2.2 1).2.1 (numE (numE S.data.toList 0 1).2.1 (numE S.data.toList 0 1).2.2 1).2.2 2).2.2).2.2.1
      (rdI 32 (numE (numE S.data.toList 0 1).2.1 (numE S.data.toList 0 1).2.2 1).1.toNat (numE (numE (numE S.data.toList 0 1).2.1 (numE S.data.toList 0 1).2.2 1).2.1 (numE (numE S.data.toList 0 1).2.1 (numE S.data.toList 0 1).2.2 1).2.2 2).2.1 (numE (numE (numE S.data.toList 0 1).2.1 (numE S.data.toList 0 1).2.2 1).2.1 (numE (numE S.data.toList 0 1).2.1 (numE S.data.toList 0 1).2.2 1).2.2 2).2.2).2.2.2
  else if (numE S.data.toList 0 1).1 = 1 then
    finN S 1 true (rdL 32 40 (numE (numE S.data.toList 0 1).2.1 (numE S.data.toList 0 1).2.2 1).1.toNat (numE (numE S.data.toList 0 1).2.1 (numE S.data.toList 0 1).2.2 1).2.1 (numE (numE S.data.toList 0 1).2.1 (numE S.data.toList 0 1).2.2 1).2.2).1 [] []
      (rdL 32 40 (numE (numE S.data.toList 0 1).2.1 (numE S.data.toList 0 1).2.2 1).1.toNat (numE (numE S.data.toList 0 1).2.1 (numE S.data.toList 0 1).2.2 1).2.1 (numE (numE S.data.toList 0 1).2.1 (numE S.data.toList 0 1).2.2 1).2.2).2.1
      (rdL 32 40 (numE (numE S.data.toList 0 1).2.1 (numE S.data.toList 0 1).2.2 1).1.toNat (numE (numE S.data.toList 0 1).2.1 (numE S.data.toList 0 1).2.2 1).2.1 (numE (numE S.data.toList 0 1).2.1 (numE S.data.toList 0 1).2.2 1).2.2).2.2
  else badN
theorem p_read (S : ByteArray) (hS : S.size ≤ 140737488351232) {k : Nat} (hk : 10001000 ≤ k) : node_Read.f k S = some (readP S) := by
  obtain ⟨k, rfl⟩ : ∃ j, k = j + 1 := ⟨k - 1, by omega⟩
  unfold node_Read.f pack_From.f readP
  rw [Option.bind_some]
  simp only
  rw [show pack_Reader_Num.f S 0 1 = _ from (congrArg (fun s => pack_Reader_Num.f s 0 1) (of_B S)).trans (pRnum S.data.toList 0 1 (by omega)), Option.bind_some]
  simp only
  rw [show pack_Reader_Num.f (B (numE S.data.toList 0 1).2.1) (numE S.data.toList 0 1).2.2 1 = _ from pRnum _ _ 1 (by omega), Option.bind_some]
  simp only
  have hl : S.data.toList.length ≤ 140737488351232 := by rw [← Lib.size_eq]; exact hS
  have g1 := numE_le S.data.toList 0 1
  have b1 := numE_bd S.data.toList 0 1 (by omega)
  generalize numE S.data.toList 0 1 = x at g1 b1 ⊢
  have g2 := numE_le x.2.1 x.2.2 1
  have b2 := numE_bd x.2.1 x.2.2 1 (by omega)
  generalize numE x.2.1 x.2.2 1 = y at g2 b2 ⊢
  rw [show ((256 ^ 1 : Nat) : Int) = 256 from rfl] at b1 b2
  obtain ⟨c, hc⟩ : ∃ c : Nat, y.1 = (c : Int) := ⟨y.1.toNat, by omega⟩
  rw [hc, Int.toNat_natCast]
  by_cases h2 : x.1 = 2
  · have g3 := numE_le y.2.1 y.2.2 2
    rw [if_pos h2, if_pos h2, show pack_Reader_Num.f (B y.2.1) y.2.2 2 = _ from pRnum _ _ 2 (by omega), Option.bind_some]
    simp only [List.nil_append]
    rw [if_pos (by simp), h2]
    generalize numE y.2.1 y.2.2 2 = z at g3 ⊢
    simp only [node_Read.j0]
    have := read_inner S 2 c (by omega) c 0 (k - c - 1) [] [wrap64 z.1] z.2.1 z.2.2 (by omega) rfl (by simp) (by omega) (by omega)
    rw [show k - c - 1 + c + 1 = k by omega] at this
    exact this
  · rw [if_neg h2, if_neg h2]
    simp only [node_Read.j0]
    by_cases h1 : x.1 = 1
    · rw [if_pos h1, h1]
      have := read_leaf S 1 c (by omega) [] (by simp) c 0 (k - c - 1) [] y.2.1 y.2.2 (by omega) rfl (by omega) (by omega)
      rw [show k - c - 1 + c + 1 = k by omega] at this
      exact this
    · rw [if_neg h1, show (x.1 == 1) = false from beq_eq_false_iff_ne.2 h1]
      have := read_inner S x.1 c (by omega) c 0 (k - c - 1) [] [] y.2.1 y.2.2 (by omega) rfl (by simp) (by omega) (by omega)
      rw [show k - c - 1 + c + 1 = k by omega] at this
      refine this.trans ?_
      unfold finN
      rw [if_neg (by rintro ⟨h | h, _⟩; exact h1 h; exact h2 h)]
/-! ## what may be, is small -/
theorem risF_at (l : List ByteArray) : ∀ m i : Nat, risF l m i = true → ∀ j, i ≤ j → j < i + m → okAt l j = true := by
  intro m
  induction m with
  | zero => intro i _ j h1 h2; omega
  | succ m ih =>
    intro i h j h1 h2
    replace h : (okAt l i && risF l m (i + 1)) = true := h
    rw [Bool.and_eq_true] at h
    by_cases hj : j = i
    · subst hj; exact h.1
    · exact ih (i + 1) h.2 j (by omega) (by omega)
theorem ris_small {l : List ByteArray} (h : ris l = true) : ∀ s ∈ l, s.size ≤ 32 := by
  intro s hs
  obtain ⟨j, hj, rfl⟩ := List.getElem_of_mem hs
  have := risF_at l l.length 0 h j (by omega) (by omega)
  unfold okAt at this
  rw [getD_at l j hj] at this
  simp only [Bool.and_eq_true, decide_eq_true_eq] at this
  exact this.1.2
theorem right_leaf_of {ps : List Pr} {ks : List ByteArray} {kids : List Int} (h : rightN true ps ks kids = true) : ks = [] ∧ kids = [] ∧ ∀ p ∈ ps, p.f0.size ≤ 32 ∧ p.f1.size ≤ 40 := by
  unfold rightN at h
  rw [if_pos rfl] at h
  simp only [Bool.and_eq_true, decide_eq_true_eq, Bool.not_eq_true', List.any_eq_false] at h
  refine ⟨List.eq_nil_of_length_eq_zero h.1, List.eq_nil_of_length_eq_zero h.2.1, fun p hp => ⟨?_, ?_⟩⟩
  · exact ris_small h.2.2.1 p.f0 (List.mem_map.2 ⟨p, hp, rfl⟩)
  · have := h.2.2.2 p hp
    unfold longP at this
    simp only [decide_eq_true_eq] at this
    omega
theorem right_inner_of {ps : List Pr} {ks : List ByteArray} {kids : List Int} (h : rightN false ps ks kids = true) : ps = [] ∧ kids.length = ks.length + 1 ∧ (∀ s ∈ ks, s.size ≤ 32) ∧ ∀ c ∈ kids, 1 ≤ c ∧ c ≤ 65535 := by
  unfold rightN at h
  rw [if_neg (show ¬ (false = true) by decide)] at h
  simp only [Bool.and_eq_true, decide_eq_true_eq, Bool.not_eq_true', List.any_eq_false] at h
  refine ⟨List.eq_nil_of_length_eq_zero h.1, h.2.1, ris_small h.2.2.1, fun c hc => ?_⟩
  have := h.2.2.2 c hc
  unfold oddK at this
  simp only [Bool.or_eq_true, decide_eq_true_eq, not_or] at this
  omega
theorem numE_one (c : UInt8) (r : List UInt8) : numE (c :: r) 0 1 = ((c.toNat : Int), r, 0) := by
  have := numE_enc (c.toNat : Int) r 1 (by omega) (by omega) (by have := c.toNat_lt; rw [show ((256 ^ 1 : Nat) : Int) = 256 from rfl]; omega)
  rw [beN1, ofc] at this
  exact this
theorem strL_len_eq (s : ByteArray) (h : s.size ≤ 255) : (strL s).length = 1 + s.size := by
  rw [strL_small s h, List.length_cons, ← Lib.size_eq]; omega
theorem leafL_len_eq (ps : List Pr) (h : ∀ p ∈ ps, p.f0.size ≤ 255 ∧ p.f1.size ≤ 255) : (leafL ps).length = sumP ps := by
  induction ps with
  | nil => rfl
  | cons p ps ih =>
    obtain ⟨h0, h1⟩ := h p (by simp)
    rw [leafL_cons, sumP_cons, List.length_append, List.length_append, strL_len_eq _ h0, strL_len_eq _ h1, ih (fun q hq => h q (by simp [hq]))]; unfold wp; omega
theorem innL_len_eq : ∀ (ks : List ByteArray) (cs : List Int), ks.length = cs.length → (∀ s ∈ ks, s.size ≤ 255) → (innL ks cs).length = sumK ks := by
  intro ks
  induction ks with
  | nil => intro cs _ _; cases cs <;> rfl
  | cons s ks ih =>
    intro cs hl h
    cases cs with
    | nil => simp at hl
    | cons c cs =>
      show (strL s ++ beN 2 (IntKind.u64.wrap c) ++ innL ks cs).length = _
      rw [sumK_cons, List.length_append, List.length_append, strL_len_eq _ (h s (by simp)), beN_len, ih cs (by simpa using hl) (fun q hq => h q (by simp [hq]))]; unfold wk; omega
theorem byt_nat (n : Nat) (h : n ≤ 255) : (byt (n : Int)).toNat = n := by
  unfold byt
  rw [UInt8.toNat_ofNat']; omega
theorem pad_zeros (b : List UInt8) : ∀ x ∈ List.replicate (256 - b.length) (0 : UInt8), x = 0 := fun x hx => (List.mem_replicate.1 hx).2
theorem pad_len (b : List UInt8) (h : b.length ≤ 256) : (pad b).length = 256 := by unfold pad; rw [List.length_append, List.length_replicate]; omega
theorem sumP_two (ps : List Pr) : 2 * ps.length ≤ sumP ps := by
  induction ps with
  | nil => exact Nat.le_refl _
  | cons p ps ih => rw [sumP_cons, List.length_cons]; unfold wp; omega
theorem p_complete (leaf : Bool) (ps : List Pr) (ks : List ByteArray) (kids : List Int) (h : rightN leaf ps ks kids = true) (hs : sizeN leaf ps ks ≤ 256) : readP (B (pageN leaf ps ks kids)) = (leaf, ps, ks, kids, 0) := by
  unfold sizeN at hs
  cases leaf with
  | true =>
    rw [if_pos rfl] at hs
    obtain ⟨rfl, rfl, hp⟩ := right_leaf_of h
    have h2 := sumP_two ps
    have hl := leafL_len_eq ps (fun p hq => by have := hp p hq; omega)
    have e : pageN true ps [] [] = 1 :: byt ps.length :: (leafL ps ++ List.replicate (256 - ([1, byt ps.length] ++ leafL ps).length) 0) := by
      unfold pageN pad; rw [if_pos rfl]; simp
    have hpl : (pageN true ps [] []).length = 256 := by
      unfold pageN; rw [if_pos rfl]; exact pad_len _ (by simp; omega)
    unfold readP
    rw [B_data, e, numE_one]
    simp only
    rw [if_neg (by decide), if_pos (by decide), numE_one]
    simp only
    rw [byt_nat _ (by omega), Int.toNat_natCast, rdL_enc 32 40 (by omega) (by omega) ps _ hp]
    unfold finN
    rw [if_pos ⟨.inl rfl, rfl, by rw [← e, B_size]; exact hpl, h, fun x hx => (List.mem_replicate.1 hx).2⟩]
  | false =>
    rw [if_neg (show ¬ (false = true) by decide)] at hs
    obtain ⟨rfl, hkl, hk, hc⟩ := right_inner_of h
    cases kids with
    | nil => simp at hkl
    | cons c cs =>
      have hcl : ks.length = cs.length := by simpa using hkl.symm
      have h2 := len_sumK ks
      have hl := innL_len_eq ks cs hcl (fun s hq => by have := hk s hq; omega)
      have hbl := beN_len 2 (IntKind.u64.wrap c)
      obtain ⟨c0, c1⟩ := hc c (by simp)
      have ew : IntKind.u64.wrap c = c := by rw [wrapu]; omega
      have e : pageN false [] ks (c :: cs) = 2 :: byt ks.length :: (beN 2 c ++ (innL ks cs ++ List.replicate (256 - ([2, byt ks.length] ++ beN 2 (IntKind.u64.wrap c) ++ innL ks cs).length) 0)) := by
        unfold pageN pad; rw [if_neg (show ¬ (false = true) by decide)]; simp [ew]
      have hpl : (pageN false [] ks (c :: cs)).length = 256 := by
        unfold pageN; rw [if_neg (show ¬ (false = true) by decide)]
        exact pad_len _ (by simp only [List.headD_cons, List.drop_one, List.tail_cons, List.length_append, List.length_cons, List.length_nil]; omega)
      unfold readP
      rw [B_data, e, numE_one]
      simp only
      rw [if_pos (by decide), numE_one]
      simp only
      rw [byt_nat _ (by omega), Int.toNat_natCast, numE_enc c _ 2 (by omega) (by omega) (by rw [show ((256 ^ 2 : Nat) : Int) = 65536 from rfl]; omega)]
      simp only
      rw [rdI_enc 32 (by omega) ks cs _ hcl hk (fun q hq => by have := hc q (by simp [hq]); omega), IntWalk.wrap64_in c ⟨by omega, by omega⟩]
      unfold finN
      rw [if_pos ⟨.inr rfl, rfl, by rw [← e, B_size]; exact hpl, h, fun x hx => (List.mem_replicate.1 hx).2⟩]
theorem all_zero (r : List UInt8) (h : ∀ x ∈ r, x = 0) : r = List.replicate r.length 0 := List.eq_replicate_iff.2 ⟨rfl, h⟩
theorem writeN_ok {leaf : Bool} {ps : List Pr} {ks : List ByteArray} {kids : List Int} {S : ByteArray} (h : writeN leaf ps ks kids = (S, 0)) : rightN leaf ps ks kids = true ∧ sizeN leaf ps ks ≤ 256 ∧ S = B (pageN leaf ps ks kids) := by
  unfold writeN at h
  split at h
  · rename_i h1
    split at h
    · simp at h
    · rename_i h2
      simp only [Prod.mk.injEq, and_true] at h
      exact ⟨h1, by omega, h.symm⟩
  · simp at h
theorem finN_ok {S : ByteArray} {kind : Int} {leaf : Bool} {ps : List Pr} {ks : List ByteArray} {kids : List Int} {l : List UInt8} {e : Int} (h : (finN S kind leaf ps ks kids l e).2.2.2.2 = 0) :
    finN S kind leaf ps ks kids l e = (leaf, ps, ks, kids, 0) ∧ e = 0 ∧ S.size = 256 ∧ rightN leaf ps ks kids = true ∧ ∀ x ∈ l, x = 0 := by
  unfold finN at h ⊢
  split at h
  · rename_i hc
    rw [if_pos hc]; exact ⟨rfl, hc.2⟩
  · simp [badN] at h
theorem finN_bad {S : ByteArray} {kind : Int} {leaf : Bool} {ps : List Pr} {ks : List ByteArray} {kids : List Int} {l : List UInt8} {e : Int} (h : ¬ (finN S kind leaf ps ks kids l e).2.2.2.2 = 0) : finN S kind leaf ps ks kids l e = badN := by
  unfold finN at h ⊢
  split at h
  · exact absurd rfl h
  · rename_i hc; rw [if_neg hc]
theorem p_bad (S : ByteArray) (h : ¬ (readP S).2.2.2.2 = 0) : readP S = badN := by
  unfold readP at h ⊢
  (repeat' split at h) <;> rename_i h1 <;> first
    | (rw [if_pos h1]; exact finN_bad h)
    | (rename_i h0; rw [if_neg h0, if_pos h1]; exact finN_bad h)
    | (rename_i h0; rw [if_neg h0, if_neg h1])
theorem p_sound (S : ByteArray) (h : (readP S).2.2.2.2 = 0) : writeN (readP S).1 (readP S).2.1 (readP S).2.2.1 (readP S).2.2.2.1 = (S, 0) := by
  unfold readP at h ⊢
  have hS0 : S.data.toList.length = S.size := (Lib.size_eq S).symm
  generalize hx : numE S.data.toList 0 1 = x at h ⊢
  generalize hy : numE x.2.1 x.2.2 1 = y at h ⊢
  obtain ⟨x1, x2, x3⟩ := x
  obtain ⟨y1, y2, y3⟩ := y
  simp only at hy h ⊢
  have ex : x3 = 0 ∨ y3 ≠ 0 := by
    rcases Int.decEq x3 0 with h3 | h3
    · rw [numE_bad _ _ _ h3] at hy; simp only [Prod.mk.injEq] at hy; exact .inr (by rw [← hy.2.2]; exact h3)
    · exact .inl h3
  by_cases h2 : x1 = 2
  · rw [if_pos h2] at h ⊢
    generalize hz : numE y2 y3 2 = z at h ⊢
    obtain ⟨z1, z2, z3⟩ := z
    simp only at h ⊢
    obtain ⟨e, r0, s6, hr, hzz⟩ := finN_ok h
    rw [e]
    obtain ⟨i1, i2, i3⟩ := rdI_inv 32 y1.toNat z2 z3 r0
    subst i1
    have il := rdI_len 32 y1.toNat z2 0
    generalize rdI 32 y1.toNat z2 0 = q at *
    obtain ⟨q1, q2, q3, q4⟩ := q
    simp only at *
    have ey : y3 = 0 := by
      rcases Int.decEq y3 0 with h3 | h3
      · rw [numE_bad _ _ _ h3] at hz; simp only [Prod.mk.injEq] at hz; exact absurd hz.2.2 h3
      · exact h3
    subst ey
    have ex' : x3 = 0 := by rcases ex with h | h; exact h; exact absurd rfl h
    subst ex' h2
    obtain ⟨a1, a2, a3⟩ := numE_inv _ _ _ _ (by omega) hx
    obtain ⟨b1, b2, b3⟩ := numE_inv _ _ _ _ (by omega) hy
    obtain ⟨c1, c2, c3⟩ := numE_inv _ _ _ _ (by omega) hz
    rw [show ((256 ^ 1 : Nat) : Int) = 256 from rfl] at b3
    rw [show ((256 ^ 2 : Nat) : Int) = 65536 from rfl] at c3
    obtain ⟨n, rfl⟩ : ∃ n : Nat, y1 = (n : Int) := ⟨y1.toNat, by omega⟩
    rw [Int.toNat_natCast] at il
    rw [beN1] at b1
    have a1' : S.data.toList = 2 :: x2 := a1
    have hil := innL_len_eq q1 q2 (by omega) i3
    have htot : S.data.toList = [2, byt q1.length] ++ beN 2 (IntKind.u64.wrap (wrap64 z1)) ++ innL q1 q2 ++ q3 := by
      rw [a1', b1, c1, i2, IntWalk.wrap64_in z1 ⟨by omega, by omega⟩, show IntKind.u64.wrap z1 = z1 by rw [wrapu]; omega, il.1]
      have : byt (n : Int) = UInt8.ofNat n := by unfold byt; congr 1; omega
      rw [this]; simp
    have hlen := congrArg List.length htot
    rw [List.length_append, List.length_append, List.length_append, beN_len, hil, hS0, s6] at hlen
    simp only [List.length_cons, List.length_nil] at hlen
    unfold writeN
    rw [if_pos hr, if_neg (by unfold sizeN; rw [if_neg (show ¬ (false = true) by decide)]; omega)]
    congr 1
    apply ext
    rw [B_data, htot]
    unfold pageN pad
    rw [if_neg (show ¬ (false = true) by decide), all_zero q3 hzz]
    simp only [List.headD_cons, List.drop_one, List.tail_cons]
    congr 1
    congr 1
    rw [List.length_append, List.length_append, beN_len, hil]
    simp only [List.length_cons, List.length_nil]
    omega
  · rw [if_neg h2] at h ⊢
    by_cases h1 : x1 = 1
    · rw [if_pos h1] at h ⊢
      obtain ⟨e, r0, s6, hr, hzz⟩ := finN_ok h
      rw [e]
      obtain ⟨i1, i2, i3⟩ := rdL_inv 32 40 y1.toNat y2 y3 r0
      subst i1
      have il := rdL_len 32 40 y1.toNat y2 0
      generalize rdL 32 40 y1.toNat y2 0 = q at *
      obtain ⟨q1, q3, q4⟩ := q
      simp only at *
      have ex' : x3 = 0 := by rcases ex with h | h; exact h; exact absurd rfl h
      subst ex' h1
      obtain ⟨a1, a2, a3⟩ := numE_inv _ _ _ _ (by omega) hx
      obtain ⟨b1, b2, b3⟩ := numE_inv _ _ _ _ (by omega) hy
      rw [show ((256 ^ 1 : Nat) : Int) = 256 from rfl] at b3
      obtain ⟨n, rfl⟩ : ∃ n : Nat, y1 = (n : Int) := ⟨y1.toNat, by omega⟩
      rw [Int.toNat_natCast] at il
      rw [beN1] at b1
      have a1' : S.data.toList = 1 :: x2 := a1
      have hil := leafL_len_eq q1 i3
      have htot : S.data.toList = [1, byt q1.length] ++ leafL q1 ++ q3 := by
        rw [a1', b1, i2, il]
        have : byt (n : Int) = UInt8.ofNat n := by unfold byt; congr 1; omega
        rw [this]; simp
      have hlen := congrArg List.length htot
      rw [List.length_append, List.length_append, hil, hS0, s6] at hlen
      simp only [List.length_cons, List.length_nil] at hlen
      unfold writeN
      rw [if_pos hr, if_neg (by unfold sizeN; rw [if_pos rfl]; omega)]
      congr 1
      apply ext
      rw [B_data, htot]
      unfold pageN pad
      rw [if_pos rfl, all_zero q3 hzz]
      congr 1
      congr 1
      rw [List.length_append, hil]
      simp only [List.length_cons, List.length_nil]
      omega
    · rw [if_neg h1] at h; simp [badN] at h
end Go.Proofs.YtokjbncjapndgaaDoor.XN
