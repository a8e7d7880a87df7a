/- The plain law of NodeParts. Condition: the bulk's bound. -/
import Derived.Test.YtokjbncjapndgaaXNodeJ
namespace Go.Proofs.Ytokjbncjapndgaa.Pure
open Go.RowKit Go.Proofs.Ytokjbncjapndgaa.PAll Go.Proofs.Ytokjbncjapndgaa.XP Go.Proofs.Ytokjbncjapndgaa.XN Go.Proofs.Ytokjbncjapndgaa.XW Go.Proofs.Ytokjbncjapndgaa.XLib Go.Proofs.YtokjbncjapndgaaW.PrintWords Go.Proofs.YtokjbncjapndgaaW.PrintLast
theorem bl_trans : ∀ a b c : List UInt8, Op.bytesLess a b = true → Op.bytesLess b c = true → Op.bytesLess a c = true := by
  intro a
  induction a with
  | nil =>
    intro b c h1 h2
    cases c with
    | nil => cases b <;> simp [Op.bytesLess] at h2
    | cons z c => rfl
  | cons x a ih =>
    intro b c h1 h2
    cases b with
    | nil => simp [Op.bytesLess] at h1
    | cons y b =>
      cases c with
      | nil => simp [Op.bytesLess] at h2
      | cons z c =>
        rw [Op.bytesLess, Bool.or_eq_true, Bool.and_eq_true, decide_eq_true_eq, beq_iff_eq] at h1 h2 ⊢
        simp only [UInt8.lt_iff_toNat_lt] at *
        rcases h1 with h1 | ⟨rfl, h1⟩
        · rcases h2 with h2 | ⟨rfl, h2⟩
          · exact .inl (Nat.lt_trans h1 h2)
          · exact .inl h1
        · rcases h2 with h2 | ⟨rfl, h2⟩
          · exact .inl h2
          · exact .inr ⟨rfl, ih b c h1 h2⟩
theorem risF_iff (l : List ByteArray) : ∀ m i : Nat, risF l m i = true ↔ ∀ j, i ≤ j → j < i + m → okAt l j = true := by
  intro m
  induction m with
  | zero => intro i; exact ⟨fun _ j h1 h2 => absurd h2 (by omega), fun _ => rfl⟩
  | succ m ih =>
    intro i
    show (okAt l i && risF l m (i + 1)) = true ↔ _
    rw [Bool.and_eq_true, ih (i + 1)]
    refine ⟨fun ⟨h1, h2⟩ j hj hl => ?_, fun h => ⟨h i (Nat.le_refl _) (by omega), fun j hj hl => h j (by omega) (by omega)⟩⟩
    by_cases e : j = i
    · rw [e]; exact h1
    · exact h2 j (by omega) (by omega)
theorem ris_iff (l : List ByteArray) : ris l = true ↔ ∀ j, j < l.length → okAt l j = true := by
  unfold ris; rw [risF_iff]
  exact ⟨fun h j hj => h j (Nat.zero_le _) (by omega), fun h j _ hj => h j (by omega)⟩
theorem okAt_iff (l : List ByteArray) (j : Nat) : okAt l j = true ↔ (1 ≤ (l.getD j ByteArray.empty).size ∧ (l.getD j ByteArray.empty).size ≤ 32) ∧ (j = 0 ∨ Op.bytesLess (l.getD (j - 1) ByteArray.empty).toList (l.getD j ByteArray.empty).toList = true) := by
  unfold okAt
  rw [Bool.and_eq_true, Bool.or_eq_true, decide_eq_true_eq, decide_eq_true_eq]
theorem getD_take (l : List ByteArray) (c j : Nat) (h : j < c) : (l.take c).getD j ByteArray.empty = l.getD j ByteArray.empty := by
  rw [List.getD_eq_getElem?_getD, List.getD_eq_getElem?_getD, List.getElem?_take, if_pos h]
theorem getD_drop (l : List ByteArray) (c j : Nat) : (l.drop c).getD j ByteArray.empty = l.getD (c + j) ByteArray.empty := by
  rw [List.getD_eq_getElem?_getD, List.getD_eq_getElem?_getD, List.getElem?_drop]
theorem ris_take {l : List ByteArray} (h : ris l = true) (c : Nat) : ris (l.take c) = true := by
  rw [ris_iff] at h ⊢
  intro j hj
  rw [List.length_take] at hj
  have := h j (by omega)
  rw [okAt_iff] at this ⊢
  rw [getD_take _ _ _ (by omega), getD_take _ _ _ (by omega)]
  exact this
theorem ris_drop {l : List ByteArray} (h : ris l = true) (c : Nat) : ris (l.drop c) = true := by
  rw [ris_iff] at h ⊢
  intro j hj
  rw [List.length_drop] at hj
  have := h (c + j) (by omega)
  rw [okAt_iff] at this ⊢
  rw [getD_drop, getD_drop]
  refine ⟨this.1, ?_⟩
  by_cases e : j = 0
  · exact .inl e
  · refine .inr ?_
    rcases this.2 with h0 | h0
    · omega
    · rw [show c + (j - 1) = c + j - 1 by omega]; exact h0
theorem ris_ord {l : List ByteArray} (h : ris l = true) : ∀ d i, i + d + 1 < l.length → Op.bytesLess (l.getD i ByteArray.empty).toList (l.getD (i + d + 1) ByteArray.empty).toList = true := by
  rw [ris_iff] at h
  intro d
  induction d with
  | zero =>
    intro i hi
    have := h (i + 1) (by omega)
    rw [okAt_iff] at this
    rcases this.2 with h0 | h0
    · omega
    · exact h0
  | succ d ih =>
    intro i hi
    have a := ih i (by omega)
    have := h (i + (d + 1) + 1) (by omega)
    rw [okAt_iff] at this
    rcases this.2 with h0 | h0
    · omega
    · exact bl_trans _ _ _ a h0
theorem ris_pos {l : List ByteArray} (h : ris l = true) (i : Nat) (hi : i < l.length) : 1 ≤ (l.getD i ByteArray.empty).size ∧ (l.getD i ByteArray.empty).size ≤ 32 := by
  rw [ris_iff] at h
  have := h i hi
  rw [okAt_iff] at this
  exact this.1
theorem any_take {α : Type} {l : List α} {p : α → Bool} (h : l.any p = false) (c : Nat) : (l.take c).any p = false := by
  rw [List.any_eq_false] at h ⊢
  exact fun x hx => h x (List.mem_of_mem_take hx)
theorem any_drop {α : Type} {l : List α} {p : α → Bool} (h : l.any p = false) (c : Nat) : (l.drop c).any p = false := by
  rw [List.any_eq_false] at h ⊢
  exact fun x hx => h x (List.mem_of_mem_drop hx)
/-- what a right leaf, a right inner node is -/
theorem leaf_iff (ps : List XN.Pr) (ks : List ByteArray) (kids : List Int) : rightN true ps ks kids = true ↔ ks = [] ∧ kids = [] ∧ ris (ps.map (·.f0)) = true ∧ ps.any longP = false := by
  unfold rightN
  rw [if_pos rfl]
  simp only [Bool.and_eq_true, decide_eq_true_eq, List.length_eq_zero_iff, Bool.not_eq_true']
theorem inner_iff (ps : List XN.Pr) (ks : List ByteArray) (kids : List Int) : rightN false ps ks kids = true ↔ ps = [] ∧ kids.length = ks.length + 1 ∧ ris ks = true ∧ kids.any oddK = false := by
  unfold rightN
  rw [if_neg (show ¬ (false = true) by decide)]
  simp only [Bool.and_eq_true, decide_eq_true_eq, List.length_eq_zero_iff, Bool.not_eq_true']
abbrev key_ (t : TS) : ByteArray := t.2.2.2.2.2.2.2.2
structure Parts (leaf : Bool) (ps : List XN.Pr) (ks : List ByteArray) (kids : List Int) (t : TS) : Prop where
  joined : joinN t.1 t.2.1 t.2.2.1 t.2.2.2.1 t.2.2.2.2.2.1 t.2.2.2.2.2.2.1 t.2.2.2.2.2.2.2.1 (key_ t) = (leaf, ps, ks, kids)
  ra : rightN t.1 t.2.1 t.2.2.1 t.2.2.2.1 = true
  rb : rightN t.2.2.2.2.1 t.2.2.2.2.2.1 t.2.2.2.2.2.2.1 t.2.2.2.2.2.2.2.1 = true
  ahead : ∀ p ∈ t.2.1, Op.bytesLess p.f0.toList (key_ t).toList = true
  behind : ∀ p ∈ t.2.2.2.2.2.1, Op.bytesLess p.f0.toList (key_ t).toList = false
  fits : sizeN leaf ps ks ≤ 330 → sizeN t.1 t.2.1 t.2.2.1 ≤ 256 ∧ sizeN t.2.2.2.2.1 t.2.2.2.2.2.1 t.2.2.2.2.2.2.1 ≤ 256
  key : (key_ t).size ≠ 0
theorem mem_at {α : Type} {l : List α} {x : α} (h : x ∈ l) : ∃ i, ∃ hi : i < l.length, l[i] = x := List.mem_iff_getElem.1 h
theorem parts_leaf (ps : List XN.Pr) (hr : rightN true ps [] [] = true) (h2 : 2 ≤ ps.length) : Parts true ps [] [] (leafS ps (cutP ps)) := by
  obtain ⟨_, _, hris, hlong⟩ := (leaf_iff _ _ _).1 hr
  obtain ⟨b1, b2⟩ := cutP_bd ps h2
  have lo := cutG_lo (ps.map wp) (ps.length - 2) 1
  have hi := cutG_hi (ps.map wp) (ps.length - 2) 1
  rw [show cutG (ps.map wp) (ps.length - 2) 1 = cutP ps from rfl] at lo hi
  generalize cutP ps = c at *
  have hc : c < ps.length := by omega
  have ek : key_ (leafS ps c) = ps[c].f0 := by show (rd_T43 ps (c : Int)).f0 = _; rw [rdp ps c hc]
  have gm : ∀ i, (hi : i < ps.length) → (ps.map (·.f0)).getD i ByteArray.empty = ps[i].f0 := by
    intro i hi
    rw [List.getD_eq_getElem?_getD, List.getElem?_map, List.getElem?_eq_getElem hi]; rfl
  have wsmall : ∀ i, (hi : i < ps.length) → wp ps[i] ≤ 74 := by
    intro i hi
    have a := ris_pos hris i (by rw [List.length_map]; exact hi)
    rw [gm i hi] at a
    have b := List.any_eq_false.1 hlong _ (List.getElem_mem hi)
    unfold longP at b
    rw [decide_eq_true_eq] at b
    unfold wp
    omega
  refine ⟨?_, ?_, ?_, ?_, ?_, ?_, ?_⟩
  · show joinN true (ps.take c) [] [] (ps.drop c) [] [] _ = _
    unfold joinN; rw [if_pos rfl, List.take_append_drop]
  · exact (leaf_iff (ps.take c) [] []).2 ⟨rfl, rfl, by rw [List.map_take]; exact ris_take hris c, any_take hlong c⟩
  · exact (leaf_iff (ps.drop c) [] []).2 ⟨rfl, rfl, by rw [List.map_drop]; exact ris_drop hris c, any_drop hlong c⟩
  · intro p hp
    obtain ⟨i, hi, e⟩ := mem_at (show p ∈ ps.take c from hp)
    rw [List.length_take] at hi
    rw [List.getElem_take] at e
    have := ris_ord hris (c - i - 1) i (by rw [List.length_map]; omega)
    rw [show i + (c - i - 1) + 1 = c by omega, gm c hc, gm i (by omega), e] at this
    rw [ek]; exact this
  · intro p hp
    obtain ⟨i, hi, e⟩ := mem_at (show p ∈ ps.drop c from hp)
    rw [List.length_drop] at hi
    rw [List.getElem_drop] at e
    rw [ek]
    by_cases h0 : i = 0
    · subst h0; rw [← e]; exact bl_irrefl _
    · have := ris_ord hris (i - 1) c (by rw [List.length_map]; omega)
      rw [gm c hc, gm (c + (i - 1) + 1) (by omega)] at this
      have e2 : ps[c + (i - 1) + 1]'(by omega) = p := by rw [← e]; congr 1; omega
      rw [e2] at this
      exact bl_asymm _ _ this
  · intro hs
    show sizeN true (ps.take c) [] ≤ 256 ∧ sizeN true (ps.drop c) [] ≤ 256
    unfold sizeN at hs ⊢
    rw [if_pos rfl] at hs
    rw [if_pos rfl, if_pos rfl, sumP_take, sumP_drop]
    have es := sum_split (ps.map wp) c
    have e0 : sumP ps = (ps.map wp).sum := rfl
    have hl : c - 1 < (ps.map wp).length := by rw [List.length_map]; omega
    have e1 := sum_take (ps.map wp) (c - 1) hl
    rw [show c - 1 + 1 = c by omega, List.getElem_map] at e1
    have w1 := wsmall (c - 1) (by omega)
    have a1 : ((ps.map wp).take c).sum ≤ 254 := by
      by_cases hc1 : 1 < c
      · have := lo hc1; omega
      · have z : ((ps.map wp).take (c - 1)).sum = 0 := by rw [show c - 1 = 0 by omega]; rfl
        omega
    have a2 : ((ps.map wp).drop c).sum ≤ 254 := by
      by_cases hc2 : c + 1 < ps.length
      · have := hi (by omega); omega
      · rw [List.drop_eq_getElem_cons (show c < (ps.map wp).length by rw [List.length_map]; omega), List.drop_eq_nil_of_le (by rw [List.length_map]; omega), List.getElem_map]
        have := wsmall c hc
        simp only [List.sum_cons, List.sum_nil]; omega
    omega
  · rw [ek]
    have := ris_pos hris c (by rw [List.length_map]; exact hc)
    rw [gm c hc] at this; omega
theorem parts_inner (ks : List ByteArray) (kids : List Int) (hr : rightN false [] ks kids = true) (h3 : 3 ≤ ks.length) : Parts false [] ks kids (innS ks kids (cutK ks)) := by
  obtain ⟨_, hkl, hris, hodd⟩ := (inner_iff _ _ _).1 hr
  obtain ⟨b1, b2⟩ := cutK_bd ks h3
  have lo := cutG_lo (ks.map wk) (ks.length - 3) 1
  have hi := cutG_hi (ks.map wk) (ks.length - 3) 1
  rw [show cutG (ks.map wk) (ks.length - 3) 1 = cutK ks from rfl] at lo hi
  generalize cutK ks = c at *
  have hc : c < ks.length := by omega
  have ek : key_ (innS ks kids c) = ks[c] := by show rdOf ByteArray.empty ks (c : Int) = _; rw [rds ks c hc]
  have gm : ∀ i, (hi : i < ks.length) → ks.getD i ByteArray.empty = ks[i] := fun i hi => getD_at ks i hi
  have wsmall : ∀ i, (hi : i < ks.length) → wk ks[i] ≤ 35 := by
    intro i hi
    have a := ris_pos hris i hi
    rw [gm i hi] at a
    unfold wk
    omega
  refine ⟨?_, ?_, ?_, ?_, ?_, ?_, ?_⟩
  · show joinN false [] (ks.take c) (kids.take (c + 1)) [] (ks.drop (c + 1)) (kids.drop (c + 1)) (key_ (innS ks kids c)) = _
    unfold joinN
    rw [if_neg (show ¬ (false = true) by decide), ek, List.take_append_drop, List.append_assoc, List.singleton_append, ← List.drop_eq_getElem_cons hc, List.take_append_drop]
  · exact (inner_iff [] (ks.take c) (kids.take (c + 1))).2 ⟨rfl, by rw [List.length_take, List.length_take]; omega, ris_take hris c, any_take hodd _⟩
  · exact (inner_iff [] (ks.drop (c + 1)) (kids.drop (c + 1))).2 ⟨rfl, by rw [List.length_drop, List.length_drop]; omega, ris_drop hris _, any_drop hodd _⟩
  · intro p hp; exact absurd hp (by simp [innS])
  · intro p hp; exact absurd hp (by simp [innS])
  · intro hs
    show sizeN false [] (ks.take c) ≤ 256 ∧ sizeN false [] (ks.drop (c + 1)) ≤ 256
    unfold sizeN at hs ⊢
    rw [if_neg (show ¬ (false = true) by decide)] at hs
    rw [if_neg (show ¬ (false = true) by decide), if_neg (show ¬ (false = true) by decide), sumK_take, sumK_drop]
    have es := sum_split (ks.map wk) c
    have e0 : sumK ks = (ks.map wk).sum := rfl
    have hl : c - 1 < (ks.map wk).length := by rw [List.length_map]; omega
    have e1 := sum_take (ks.map wk) (c - 1) hl
    rw [show c - 1 + 1 = c by omega, List.getElem_map] at e1
    have w1 := wsmall (c - 1) (by omega)
    have ed : (ks.map wk).drop c = wk ks[c] :: (ks.map wk).drop (c + 1) := by
      rw [List.drop_eq_getElem_cons (show c < (ks.map wk).length by rw [List.length_map]; omega), List.getElem_map]
    rw [ed, List.sum_cons] at es
    have a1 : ((ks.map wk).take c).sum ≤ 252 := by
      by_cases hc1 : 1 < c
      · have := lo hc1; omega
      · have z : ((ks.map wk).take (c - 1)).sum = 0 := by rw [show c - 1 = 0 by omega]; rfl
        omega
    have a2 : ((ks.map wk).drop (c + 1)).sum ≤ 252 := by
      by_cases hc2 : c + 2 < ks.length
      · have := hi (by omega); omega
      · rw [List.drop_eq_getElem_cons (show c + 1 < (ks.map wk).length by rw [List.length_map]; omega), List.drop_eq_nil_of_le (by rw [List.length_map]; omega), List.getElem_map]
        have := wsmall (c + 1) (by omega)
        simp only [List.sum_cons, List.sum_nil]; omega
    omega
  · rw [ek]
    have := ris_pos hris c hc
    rw [gm c hc] at this; omega
section
variable {n0 : Bool} {n1 : List XN.Pr} {n2 : List ByteArray} {n3 : List Int} {a0 : Bool} {a1 : List XN.Pr} {a2 : List ByteArray} {a3 : List Int} {b0 : Bool} {b1 : List XN.Pr} {b2 : List ByteArray} {b3 : List Int}
theorem parts_l1 (key : ByteArray) (hn : Bd n1 n2 n3) (ha : Bd a1 a2 a3) (hb : Bd b1 b2 b3) (hB : ∀ p ∈ b1, Op.bytesLess p.f0.toList key.toList = false) (hf : sizeN n0 n1 n2 ≤ 330 → sizeN a0 a1 a2 ≤ 256 ∧ sizeN b0 b1 b2 ≤ 256) : ∀ m i k : Nat, i + m = b1.length → 30000000 ≤ k →
    factotumlaw09_NodeParts.l1 (k + m + 1) key (i : Int) n0 n1 n2 n3 a0 a1 a2 a3 b0 b1 b2 b3 = some true := by
  have ln := len_sumP n1
  have ln2 := len_sumK n2
  have la := len_sumP a1
  have la2 := len_sumK a2
  have lb := len_sumP b1
  have lb2 := len_sumK b2
  have hn1 := hn.p
  have hn2 := hn.k
  have ha1 := ha.p
  have ha2 := ha.k
  have hb1 := hb.p
  have hb2 := hb.k
  intro m
  induction m with
  | zero =>
    intro i k hi hk
    simp only [factotumlaw09_NodeParts.l1]
    rw [if_neg (by omega), p_size _ _ _ _ (by omega) (by unfold BIG; omega) (by unfold BIG; omega) (by unfold BIG; omega) (by unfold BIG; omega), Option.bind_some]
    by_cases h : sizeN n0 n1 n2 ≤ 330
    · obtain ⟨h1, h2⟩ := hf h
      rw [if_neg (by omega), p_size _ _ _ _ (by omega) (by unfold BIG; omega) (by unfold BIG; omega) (by unfold BIG; omega) (by unfold BIG; omega), Option.bind_some, if_pos (by omega), p_size _ _ _ _ (by omega) (by unfold BIG; omega) (by unfold BIG; omega) (by unfold BIG; omega) (by unfold BIG; omega), Option.bind_some, decide_eq_true (by omega)]
    · rw [if_pos (by omega)]
  | succ m ih =>
    intro i k hi hk
    have hlt : i < b1.length := by omega
    rw [show k + (m + 1) + 1 = (k + m + 1) + 1 by omega]
    generalize hK : k + m + 1 = K
    simp only [factotumlaw09_NodeParts.l1]
    subst hK
    rw [if_pos (by omega), if_pos (by omega), rdp b1 i hlt, if_neg (by rw [hB _ (List.getElem_mem hlt)]; decide), nexti i (by omega), ih (i + 1) k (by omega) hk]
theorem parts_l0 (key : ByteArray) (hn : Bd n1 n2 n3) (ha : Bd a1 a2 a3) (hb : Bd b1 b2 b3) (hA : ∀ p ∈ a1, Op.bytesLess p.f0.toList key.toList = true) (hB : ∀ p ∈ b1, Op.bytesLess p.f0.toList key.toList = false) (hf : sizeN n0 n1 n2 ≤ 330 → sizeN a0 a1 a2 ≤ 256 ∧ sizeN b0 b1 b2 ≤ 256) : ∀ m i k : Nat, i + m = a1.length → 50000000 ≤ k →
    factotumlaw09_NodeParts.l0 (k + m + 1) key (i : Int) n0 n1 n2 n3 a0 a1 a2 a3 b0 b1 b2 b3 = some true := by
  have la := len_sumP a1
  have ha1 := ha.p
  have lb := len_sumP b1
  have hb1 := hb.p
  intro m
  induction m with
  | zero =>
    intro i k hi hk
    simp only [factotumlaw09_NodeParts.l0]
    rw [if_neg (by omega)]
    have := parts_l1 (n0 := n0) (a0 := a0) (b0 := b0) key hn ha hb hB hf b1.length 0 (k - b1.length - 1) (by omega) (by omega)
    rw [show k - b1.length - 1 + b1.length + 1 = k by omega] at this
    exact this
  | succ m ih =>
    intro i k hi hk
    have hlt : i < a1.length := by omega
    rw [show k + (m + 1) + 1 = (k + m + 1) + 1 by omega]
    generalize hK : k + m + 1 = K
    simp only [factotumlaw09_NodeParts.l0]
    subst hK
    rw [if_pos (by omega), if_pos (by omega), rdp a1 i hlt, if_pos (hA _ (List.getElem_mem hlt)), nexti i (by omega), ih (i + 1) k (by omega) hk]
end
theorem NodeParts (n : XA.S26) (_ : XA.in26 n) (hb : XA.wt26 n ≤ 1048576) :
    ∃ k, factotumlaw09_NodeParts.f k n.f0 n.f1 n.f2 n.f3 = some true := by
  have h := bd_of n hb
  obtain ⟨leaf, ps, ks, kids⟩ := n
  simp only at h ⊢
  clear hb
  have lens : ∀ {ps : List XN.Pr} {ks : List ByteArray} {kids : List Int}, Bd ps ks kids → ps.length ≤ 10000000 ∧ ks.length ≤ 10000000 ∧ kids.length ≤ 10000000 := by
    intro ps ks kids h
    have a := len_sumP ps
    have b := len_sumK ks
    obtain ⟨h1, h2, h3⟩ := h
    exact ⟨by omega, by omega, by omega⟩
  refine ⟨300000000 + 2, ?_⟩
  generalize hK : 300000000 = K
  have hF' : 300000000 ≤ K := by omega
  have hF : FUEL ≤ K := by unfold FUEL; omega
  have hF1 : FUEL ≤ K + 1 := by omega
  have hF2 : FUEL ≤ K + 2 := by omega
  have right : ∀ (a : Bool) {ps : List XN.Pr} {ks : List ByteArray} {kids : List Int} {k : Nat}, Bd ps ks kids → K ≤ k → factotumref09_Right.f k a ps ks kids = some (rightN a ps ks kids) := by
    intro a ps ks kids k hB hk
    obtain ⟨l1, l2, l3⟩ := lens hB
    have mp := mem_sumP ps
    have mk := mem_sumK ks
    obtain ⟨h1, h2, h3⟩ := hB
    exact r_right a ps ks kids (by unfold BIG; omega) (by unfold BIG; omega) (by unfold BIG; omega) 30000000 (fun p hp => by have := mp p hp; unfold wp at this; omega) (fun p hp => by have := mk p hp; unfold wk at this; omega) (by unfold BIG; omega) (by omega)
  have sm : ∀ (a : Bool) {ps : List XN.Pr} {ks : List ByteArray} {kids : List Int} {k : Nat}, Bd ps ks kids → K ≤ k → factotumref09_Same.f k a ps ks kids a ps ks kids = some true := by
    intro a ps ks kids k hB hk
    obtain ⟨h1, h2, h3⟩ := lens hB
    exact same a ps ks kids (by unfold BIG; omega) (by unfold BIG; omega) (by unfold BIG; omega) (by omega)
  unfold factotumlaw09_NodeParts.f
  rw [lives09 (by omega), Option.bind_some, if_pos rfl, right _ h (by omega), Option.bind_some, show K + 2 = (K + 1) + 1 from rfl]
  generalize hQ : K + 1 = Q at hF1
  have hQ1 : K ≤ Q := by omega
  simp only [factotumlaw09_NodeParts.j0]
  cases hr : rightN leaf ps ks kids with
  | false => rw [if_pos (by decide), lives09 (by omega), Option.bind_some]
  | true =>
    rw [if_neg (by decide), p_split _ _ _ _ h hF1, Option.bind_some]
    obtain ⟨s1, s2⟩ := bd_split (leaf := leaf) h
    have go : ∀ t : TS, Parts leaf ps ks kids t → Bd t.2.1 t.2.2.1 t.2.2.2.1 → Bd t.2.2.2.2.2.1 t.2.2.2.2.2.2.1 t.2.2.2.2.2.2.2.1 →
        (if t.2.2.2.2.2.2.2.2.toList=([]:List UInt8) then ((factotumref09_Same.f Q t.1 t.2.1 t.2.2.1 t.2.2.2.1 leaf ps ks kids).bind fun t377=>(if t377=true then ((node_Size.f Q t.2.2.2.2.1 t.2.2.2.2.2.1 t.2.2.2.2.2.2.1 t.2.2.2.2.2.2.2.1).bind fun t378=>(some (decide (t378≤4)))) else (none))) else ((node_Join.f t.1 t.2.1 t.2.2.1 t.2.2.2.1 t.2.2.2.2.1 t.2.2.2.2.2.1 t.2.2.2.2.2.2.1 t.2.2.2.2.2.2.2.1 t.2.2.2.2.2.2.2.2).bind fun bt379=>((factotumref09_Same.f Q bt379.1 bt379.2.1 bt379.2.2.1 bt379.2.2.2 leaf ps ks kids).bind fun t389=>(if t389=true then ((factotumref09_Right.f Q t.1 t.2.1 t.2.2.1 t.2.2.2.1).bind fun t390=>(if t390=true then ((factotumref09_Right.f Q t.2.2.2.2.1 t.2.2.2.2.2.1 t.2.2.2.2.2.2.1 t.2.2.2.2.2.2.2.1).bind fun t391=>(factotumlaw09_NodeParts.j1 Q t.2.2.2.2.2.2.2.2 (!t391) leaf ps ks kids t.1 t.2.1 t.2.2.1 t.2.2.2.1 t.2.2.2.2.1 t.2.2.2.2.2.1 t.2.2.2.2.2.2.1 t.2.2.2.2.2.2.2.1)) else (factotumlaw09_NodeParts.j1 Q t.2.2.2.2.2.2.2.2 true leaf ps ks kids t.1 t.2.1 t.2.2.1 t.2.2.2.1 t.2.2.2.2.1 t.2.2.2.2.2.1 t.2.2.2.2.2.2.1 t.2.2.2.2.2.2.2.1))) else (factotumlaw09_NodeParts.j1 Q t.2.2.2.2.2.2.2.2 true leaf ps ks kids t.1 t.2.1 t.2.2.1 t.2.2.2.1 t.2.2.2.2.1 t.2.2.2.2.2.1 t.2.2.2.2.2.2.1 t.2.2.2.2.2.2.2.1))))) = some true := by
      rintro ⟨t1, t2, t3, t4, t5, t6, t7, t8, t9⟩ ⟨pj, pra, prb, pah, pbe, pfi, pke⟩ bda bdb
      simp only [key_] at pj pra prb pah pbe pfi pke bda bdb
      simp only
      rw [if_neg (fun e => pke ((empty_iff _).1 e)), p_join _ _ _ _ _ _ _ _ _ bda bdb, Option.bind_some, pj]
      simp only
      rw [sm _ h hQ1, Option.bind_some, if_pos rfl, right _ bda hQ1, Option.bind_some, pra, if_pos rfl, right _ bdb hQ1, Option.bind_some, prb]
      subst hQ
      simp only [factotumlaw09_NodeParts.j1]
      rw [if_neg (by decide)]
      have := parts_l0 (n0 := leaf) (a0 := t1) (b0 := t5) t9 h bda bdb pah pbe pfi t2.length 0 (K - t2.length - 1) (by omega) (by have := (lens bda).1; omega)
      rw [show K - t2.length - 1 + t2.length + 1 = K by have := (lens bda).1; omega] at this
      exact this
    by_cases c : (leaf = true ∧ 2 ≤ ps.length) ∨ (leaf = false ∧ 3 ≤ ks.length)
    · refine go (splitN leaf ps ks kids) ?_ s1 s2
      rcases c with ⟨rfl, h2⟩ | ⟨rfl, h3⟩
      · obtain ⟨rfl, rfl, _⟩ := (leaf_iff _ _ _).1 hr
        unfold splitN; rw [if_pos ⟨rfl, h2⟩]; exact parts_leaf ps hr h2
      · obtain ⟨rfl, hkl, _⟩ := (inner_iff _ _ _).1 hr
        unfold splitN; rw [if_neg (by simp), if_pos ⟨rfl, h3, hkl⟩]; exact parts_inner ks kids hr h3
    · have e : splitN leaf ps ks kids = (leaf, ps, ks, kids, false, [], [], [], ⟨#[]⟩) := by
        unfold splitN
        rw [if_neg (fun h => c (.inl h)), if_neg (fun h => c (.inr ⟨h.1, h.2.1⟩))]
      rw [e]
      simp only
      rw [if_pos ((empty_iff _).2 rfl), sm _ h hQ1, Option.bind_some, if_pos rfl, p_size false [] [] [] (by simp; omega) (by decide) (by decide) (by decide) (by decide), Option.bind_some]
      rfl
end Go.Proofs.Ytokjbncjapndgaa.Pure
