/- Nodes that are cut in two and joined again: what the program and the document's answer compute. Plain laws over the printed functions. No conditions. -/
import Derived.Test.YtokjbncjapndgaaXNodeW
namespace Go.Proofs.Ytokjbncjapndgaa.XN
open Go.RowKit Go.Proofs.Ytokjbncjapndgaa.XW Go.Proofs.Ytokjbncjapndgaa.XLib Go.Proofs.Ytokjbncjapndgaa.PAll Go.Proofs.YtokjbncjapndgaaW.PrintWords Go.Proofs.YtokjbncjapndgaaW.PrintLast Go.Proofs.Ytokjbncjapndgaa.XP
/-! ## where weights are cut -/
def cutG (ws : List Nat) : Nat → Nat → Nat
  | 0, i => i
  | m + 1, i => if 2 * (ws.take i).sum < ws.sum then cutG ws m (i + 1) else i
theorem cutG_ge (ws : List Nat) : ∀ m i, i ≤ cutG ws m i := by
  intro m
  induction m with
  | zero => intro i; exact Nat.le_refl _
  | succ m ih => intro i; unfold cutG; split; · exact Nat.le_trans (Nat.le_succ _) (ih (i + 1))
                 · exact Nat.le_refl _
theorem cutG_le (ws : List Nat) : ∀ m i, cutG ws m i ≤ i + m := by
  intro m
  induction m with
  | zero => intro i; exact Nat.le_refl _
  | succ m ih => intro i; unfold cutG; split; · have := ih (i + 1); omega
                 · omega
theorem sum_take (l : List Nat) (i : Nat) (h : i < l.length) : (l.take (i + 1)).sum = (l.take i).sum + l[i] := by
  rw [List.take_succ_eq_append_getElem h, List.sum_append]; simp
theorem sum_split (l : List Nat) (i : Nat) : l.sum = (l.take i).sum + (l.drop i).sum := by
  conv => lhs; rw [← List.take_append_drop i l]
  exact List.sum_append
theorem take_sum_le (l : List Nat) (i : Nat) : (l.take i).sum ≤ l.sum := by rw [sum_split l i]; omega
theorem drop_sum_le (l : List Nat) (i : Nat) : (l.drop i).sum ≤ l.sum := by rw [sum_split l i]; omega
theorem sumP_take (ps : List Pr) (i : Nat) : sumP (ps.take i) = ((ps.map wp).take i).sum := by unfold sumP; rw [List.map_take]
theorem sumP_drop (ps : List Pr) (i : Nat) : sumP (ps.drop i) = ((ps.map wp).drop i).sum := by unfold sumP; rw [List.map_drop]
theorem sumK_take (ps : List ByteArray) (i : Nat) : sumK (ps.take i) = ((ps.map wk).take i).sum := by unfold sumK; rw [List.map_take]
theorem sumK_drop (ps : List ByteArray) (i : Nat) : sumK (ps.drop i) = ((ps.map wk).drop i).sum := by unfold sumK; rw [List.map_drop]
theorem wrap_in (x : Int) (h : -140737488355328 ≤ x ∧ x ≤ 140737488355328) : wrap64 x = x := IntWalk.wrap64_in _ ⟨by omega, by omega⟩
abbrev TS := Bool × List Pr × List ByteArray × List Int × Bool × List Pr × List ByteArray × List Int × ByteArray
def leafS (ps : List Pr) (c : Nat) : TS := (true, ps.take c, [], [], true, ps.drop c, [], [], (rd_T43 ps (c : Int)).f0)
def innS (ks : List ByteArray) (kids : List Int) (c : Nat) : TS := (false, [], ks.take c, kids.take (c + 1), false, [], ks.drop (c + 1), kids.drop (c + 1), rdOf ByteArray.empty ks (c : Int))
def cutP (ps : List Pr) : Nat := cutG (ps.map wp) (ps.length - 2) 1
def cutK (ks : List ByteArray) : Nat := cutG (ks.map wk) (ks.length - 3) 1
def splitN (leaf : Bool) (ps : List Pr) (ks : List ByteArray) (kids : List Int) : TS :=
  if leaf = true ∧ 2 ≤ ps.length then leafS ps (cutP ps)
  else if leaf = false ∧ 3 ≤ ks.length ∧ kids.length = ks.length + 1 then innS ks kids (cutK ks)
  else (leaf, ps, ks, kids, false, [], [], [], ⟨#[]⟩)
theorem clone_p (l : List Pr) (h : l.length ≤ 100000000) : api_Pair_56.f l = some l := by unfold api_Pair_56.f; rw [if_pos (by omega)]
theorem clone_s (l : List ByteArray) (h : l.length ≤ 100000000) : slices_Clone_string_string.f l = some l := by unfold slices_Clone_string_string.f; rw [if_pos (by omega)]
theorem clone_i (l : List Int) (h : l.length ≤ 100000000) : slices_Clone_int_int.f l = some l := by unfold slices_Clone_int_int.f; rw [if_pos (by omega)]
/-! ## the program's cut -/
theorem sl1_go (ps : List Pr) (hs : sumP ps ≤ 10000000) : ∀ m i k : Nat, i + m + 1 = ps.length → 1 ≤ i →
    node_splitLeaf.l1 (k + m + 1) ps ((sumP ps : Nat) : Int) ((sumP (ps.take i) : Nat) : Int) (i : Int) = some (leafS ps (cutG (ps.map wp) m i)) := by
  have hl := len_sumP ps
  intro m
  induction m with
  | zero =>
    intro i k hi h1
    simp only [node_splitLeaf.l1]
    rw [if_neg (by omega), wrap_in ((ps.length : Int) - 1) (by omega), if_neg (by omega), if_pos (by omega), if_pos (by omega), Int.toNat_natCast, clone_p _ (by rw [List.length_take]; omega), Option.bind_some, clone_p _ (by rw [List.length_drop]; omega), Option.bind_some, if_pos (by omega)]
    rfl
  | succ m ih =>
    intro i k hi h1
    have hlt : i < ps.length := by omega
    have hw := mem_sumP ps _ (List.getElem_mem hlt)
    have ht := take_sum_le (ps.map wp) i
    have e : sumP (ps.take (i + 1)) = sumP (ps.take i) + wp ps[i] := by rw [sumP_take, sumP_take, sum_take _ _ (by rw [List.length_map]; exact hlt), List.getElem_map]
    rw [← sumP_take] at ht
    replace ht : sumP (ps.take i) ≤ sumP ps := ht
    rw [show k + (m + 1) + 1 = (k + m + 1) + 1 by omega]
    generalize hK : k + m + 1 = K
    simp only [node_splitLeaf.l1]
    subst hK
    rw [if_neg (by omega), wrap_in ((ps.length : Int) - 1) (by omega), if_pos (by omega), wrap_in (2 * _) (by omega)]
    by_cases hc : 2 * sumP (ps.take i) < sumP ps
    · rw [if_pos (by omega), if_pos (by omega), if_pos (by omega), rdp ps i hlt, weigh _ (by unfold BIG; omega), Option.bind_some, nexti i (by omega), wrap_in _ (by omega)]
      rw [show ((sumP (ps.take i) : Nat) : Int) + ((wp ps[i] : Nat) : Int) = ((sumP (ps.take (i + 1)) : Nat) : Int) by rw [e]; rfl, ih (i + 1) k (by omega) (by omega)]
      have : cutG (ps.map wp) (m + 1) i = cutG (ps.map wp) m (i + 1) := by
        conv => lhs; unfold cutG
        rw [if_pos (by rw [← sumP_take]; exact hc)]
      rw [this]
    · rw [if_neg (by omega), if_pos (by omega), if_pos (by omega), Int.toNat_natCast, clone_p _ (by rw [List.length_take]; omega), Option.bind_some, clone_p _ (by rw [List.length_drop]; omega), Option.bind_some, if_pos (by omega)]
      have : cutG (ps.map wp) (m + 1) i = i := by
        conv => lhs; unfold cutG
        rw [if_neg (by rw [← sumP_take]; exact hc)]
      rw [this]; rfl
theorem sl0_go (ps : List Pr) (hs : sumP ps ≤ 10000000) : ∀ m i k acc : Nat, i + m = ps.length → acc = sumP (ps.take i) → node_splitLeaf.l0 (k + m + 1) ps (acc : Int) 0 0 ps (ps.length : Int) (i : Int) = node_splitLeaf.l1 k ps ((sumP ps : Nat) : Int) 0 0 := by
  have hl := len_sumP ps
  intro m
  induction m with
  | zero =>
    intro i k acc hi ha
    simp only [node_splitLeaf.l0]
    rw [if_neg (by omega), ha, List.take_of_length_le (by omega)]
  | succ m ih =>
    intro i k acc hi ha
    have hlt : i < ps.length := by omega
    have hw := mem_sumP ps _ (List.getElem_mem hlt)
    have ht := take_sum_le (ps.map wp) i
    have e : sumP (ps.take (i + 1)) = sumP (ps.take i) + wp ps[i] := by rw [sumP_take, sumP_take, sum_take _ _ (by rw [List.length_map]; exact hlt), List.getElem_map]
    rw [← sumP_take] at ht
    replace ht : sumP (ps.take i) ≤ sumP ps := ht
    rw [show k + (m + 1) + 1 = (k + m + 1) + 1 by omega]
    generalize hK : k + m + 1 = K
    simp only [node_splitLeaf.l0]
    subst hK
    rw [if_pos (by omega), if_pos (by omega), if_pos (by omega), rdp ps i hlt, weigh _ (by unfold BIG; omega), Option.bind_some, nexti i (by omega), wrap_in _ (by omega)]
    rw [show (acc : Int) + ((wp ps[i] : Nat) : Int) = ((acc + wp ps[i] : Nat) : Int) from rfl, ih (i + 1) k _ (by omega) (by rw [e, ha])]
theorem p_splitLeaf (ps : List Pr) (hs : sumP ps ≤ 10000000) (h2 : 2 ≤ ps.length) {k : Nat} (hk : 30000000 ≤ k) : node_splitLeaf.f k ps = some (leafS ps (cutP ps)) := by
  have hl := len_sumP ps
  have h := sl0_go ps hs ps.length 0 (k - ps.length - 1) 0 (by omega) (by simp [sumP])
  rw [show k - ps.length - 1 + ps.length + 1 = k by omega] at h
  refine Eq.trans h ?_
  obtain ⟨q, hq⟩ : ∃ q, k - ps.length - 1 = q + (ps.length - 2) + 1 + 1 := ⟨k - ps.length - 1 - (ps.length - 2) - 2, by omega⟩
  rw [hq]
  generalize hQ : q + (ps.length - 2) + 1 = Q
  have hw := mem_sumP ps _ (List.getElem_mem (show 0 < ps.length by omega))
  have e : sumP (ps.take 1) = wp ps[0] := by rw [sumP_take, show (1 : Nat) = 0 + 1 from rfl, sum_take _ _ (by rw [List.length_map]; omega), List.getElem_map]; simp
  simp only [node_splitLeaf.l1]
  rw [if_pos trivial, if_pos (by omega), if_pos (by omega), show (0 : Int) = ((0 : Nat) : Int) from rfl, rdp ps 0 (by omega), weigh _ (by unfold BIG; omega), Option.bind_some, wrap_in _ (by omega), nexti 0 (by omega), show (((0 : Nat) : Int) + ((wp ps[0] : Nat) : Int)) = ((sumP (ps.take 1) : Nat) : Int) by rw [e]; omega]
  subst hQ
  exact sl1_go ps hs (ps.length - 2) 1 q (by omega) (by omega)
theorem h1_go (ks : List ByteArray) (hs : sumK ks ≤ 10000000) : ∀ m i k : Nat, i + m + 2 = ks.length → 1 ≤ i →
    node_half.l1 (k + m + 1) ks ((sumK ks : Nat) : Int) ((sumK (ks.take i) : Nat) : Int) (i : Int) = some ((cutG (ks.map wk) m i : Nat) : Int) := by
  have hl := len_sumK ks
  intro m
  induction m with
  | zero =>
    intro i k hi h1
    simp only [node_half.l1]
    rw [if_neg (by omega), wrap_in ((ks.length : Int) - 2) (by omega), if_neg (by omega)]
    rfl
  | succ m ih =>
    intro i k hi h1
    have hlt : i < ks.length := by omega
    have hw := mem_sumK ks _ (List.getElem_mem hlt)
    have ht := take_sum_le (ks.map wk) i
    have e : sumK (ks.take (i + 1)) = sumK (ks.take i) + wk ks[i] := by rw [sumK_take, sumK_take, sum_take _ _ (by rw [List.length_map]; exact hlt), List.getElem_map]
    rw [← sumK_take] at ht
    replace ht : sumK (ks.take i) ≤ sumK ks := ht
    have hwk : wk ks[i] = 3 + ks[i].size := rfl
    rw [show k + (m + 1) + 1 = (k + m + 1) + 1 by omega]
    generalize hK : k + m + 1 = K
    simp only [node_half.l1]
    subst hK
    rw [if_neg (by omega), wrap_in ((ks.length : Int) - 2) (by omega), if_pos (by omega), wrap_in (2 * _) (by omega)]
    by_cases hc : 2 * sumK (ks.take i) < sumK ks
    · rw [if_pos (by omega), if_pos (by omega), if_pos (by omega), rds ks i hlt, nexti i (by omega), wrap_in (3 + _) (by omega), wrap_in _ (by omega)]
      rw [show ((sumK (ks.take i) : Nat) : Int) + (3 + (ks[i].size : Int)) = ((sumK (ks.take (i + 1)) : Nat) : Int) by rw [e]; omega, ih (i + 1) k (by omega) (by omega)]
      have : cutG (ks.map wk) (m + 1) i = cutG (ks.map wk) m (i + 1) := by
        conv => lhs; unfold cutG
        rw [if_pos (by rw [← sumK_take]; exact hc)]
      rw [this]
    · rw [if_neg (by omega)]
      have : cutG (ks.map wk) (m + 1) i = i := by
        conv => lhs; unfold cutG
        rw [if_neg (by rw [← sumK_take]; exact hc)]
      rw [this]
theorem h0_go (ks : List ByteArray) (hs : sumK ks ≤ 10000000) : ∀ m i k acc : Nat, i + m = ks.length → acc = sumK (ks.take i) → node_half.l0 (k + m + 1) ks (acc : Int) 0 0 ks (ks.length : Int) (i : Int) = node_half.l1 k ks ((sumK ks : Nat) : Int) 0 0 := by
  have hl := len_sumK ks
  intro m
  induction m with
  | zero =>
    intro i k acc hi ha
    simp only [node_half.l0]
    rw [if_neg (by omega), ha, List.take_of_length_le (by omega)]
  | succ m ih =>
    intro i k acc hi ha
    have hlt : i < ks.length := by omega
    have hw := mem_sumK ks _ (List.getElem_mem hlt)
    have ht := take_sum_le (ks.map wk) i
    have e : sumK (ks.take (i + 1)) = sumK (ks.take i) + wk ks[i] := by rw [sumK_take, sumK_take, sum_take _ _ (by rw [List.length_map]; exact hlt), List.getElem_map]
    rw [← sumK_take] at ht
    replace ht : sumK (ks.take i) ≤ sumK ks := ht
    have hwk : wk ks[i] = 3 + ks[i].size := rfl
    rw [show k + (m + 1) + 1 = (k + m + 1) + 1 by omega]
    generalize hK : k + m + 1 = K
    simp only [node_half.l0]
    subst hK
    rw [if_pos (by omega), if_pos (by omega), if_pos (by omega), rds ks i hlt, nexti i (by omega), wrap_in (3 + _) (by omega), wrap_in _ (by omega)]
    rw [show (acc : Int) + (3 + (ks[i].size : Int)) = ((acc + wk ks[i] : Nat) : Int) by omega, ih (i + 1) k _ (by omega) (by rw [e, ha])]
theorem p_half (ks : List ByteArray) (hs : sumK ks ≤ 10000000) (h3 : 3 ≤ ks.length) {k : Nat} (hk : 30000000 ≤ k) : node_half.f k ks = some ((cutK ks : Nat) : Int) := by
  have hl := len_sumK ks
  have h := h0_go ks hs ks.length 0 (k - ks.length - 1) 0 (by omega) (by simp [sumK])
  rw [show k - ks.length - 1 + ks.length + 1 = k by omega] at h
  refine Eq.trans h ?_
  obtain ⟨q, hq⟩ : ∃ q, k - ks.length - 1 = q + (ks.length - 3) + 1 + 1 := ⟨k - ks.length - 1 - (ks.length - 3) - 2, by omega⟩
  rw [hq]
  generalize hQ : q + (ks.length - 3) + 1 = Q
  have hw := mem_sumK ks _ (List.getElem_mem (show 0 < ks.length by omega))
  have hwk : wk ks[0] = 3 + ks[0].size := rfl
  have e : sumK (ks.take 1) = wk ks[0] := by rw [sumK_take, show (1 : Nat) = 0 + 1 from rfl, sum_take _ _ (by rw [List.length_map]; omega), List.getElem_map]; simp
  simp only [node_half.l1]
  rw [if_pos trivial, if_pos (by omega), if_pos (by omega), show (0 : Int) = ((0 : Nat) : Int) from rfl, rds ks 0 (by omega), wrap_in (3 + _) (by omega), wrap_in _ (by omega), nexti 0 (by omega), show (((0 : Nat) : Int) + ((3 : Int) + (ks[0].size : Int))) = ((sumK (ks.take 1) : Nat) : Int) by rw [e]; omega]
  subst hQ
  exact h1_go ks hs (ks.length - 3) 1 q (by omega) (by omega)
theorem cutK_bd (ks : List ByteArray) (h3 : 3 ≤ ks.length) : 1 ≤ cutK ks ∧ cutK ks + 2 ≤ ks.length := by
  have a := cutG_ge (ks.map wk) (ks.length - 3) 1
  have b := cutG_le (ks.map wk) (ks.length - 3) 1
  unfold cutK; omega
theorem p_split (leaf : Bool) (ps : List Pr) (ks : List ByteArray) (kids : List Int) (h : Bd ps ks kids) {k : Nat} (hk : FUEL ≤ k) : node_Split.f k leaf ps ks kids = some (splitN leaf ps ks kids) := by
  have lp := len_sumP ps
  have lk := len_sumK ks
  obtain ⟨h1, h2, h3⟩ := h
  unfold FUEL at hk
  obtain ⟨k, rfl⟩ : ∃ j, k = j + 2 := ⟨k - 2, by omega⟩
  unfold node_Split.f splitN
  have inner : ∀ leaf, node_Split.j0 (k + 2) false leaf ps ks kids = some (if leaf = false ∧ 3 ≤ ks.length ∧ kids.length = ks.length + 1 then innS ks kids (cutK ks) else (leaf, ps, ks, kids, false, [], [], [], ⟨#[]⟩)) := by
    intro leaf
    have jf : ∀ leaf, node_Split.j1 (k + 1) false leaf ps ks kids = some (leaf, ps, ks, kids, false, [], [], [], ⟨#[]⟩) := by
      intro leaf; simp only [node_Split.j1]; rw [if_neg (by decide)]
    rw [show k + 2 = (k + 1) + 1 from rfl]
    generalize hQ : k + 1 = Q at jf
    simp only [node_Split.j0]
    rw [if_neg (by decide)]
    cases leaf with
    | true => rw [if_pos rfl, jf, if_neg (by simp)]
    | false =>
      rw [if_neg (show ¬ (false = true) by decide)]
      by_cases c3 : 3 ≤ ks.length
      · rw [if_pos (by omega), wrap_in _ (by omega)]
        by_cases c4 : kids.length = ks.length + 1
        · obtain ⟨b1, b2⟩ := cutK_bd ks c3
          rw [show ((kids.length : Int) == (ks.length : Int) + 1) = true by rw [beq_iff_eq]; omega, if_pos ⟨rfl, c3, c4⟩]
          subst hQ
          simp only [node_Split.j1]
          rw [if_pos trivial, p_half ks h2 c3 (by omega), Option.bind_some, if_pos (by omega), if_pos (by omega), Int.toNat_natCast, clone_s _ (by rw [List.length_take]; omega), Option.bind_some, nexti _ (by omega), if_pos (by omega), if_pos (by omega), Int.toNat_natCast, clone_i _ (by rw [List.length_take]; omega), Option.bind_some, if_pos (by omega), clone_s _ (by rw [List.length_drop]; omega), Option.bind_some, clone_i _ (by rw [List.length_drop]; omega), Option.bind_some, if_pos (by omega)]
          rfl
        · rw [show ((kids.length : Int) == (ks.length : Int) + 1) = false by rw [beq_eq_false_iff_ne]; omega, jf, if_neg (fun h => c4 h.2.2)]
      · rw [if_neg (by omega), jf, if_neg (fun h => c3 h.2.1)]
  cases leaf with
  | true =>
    rw [if_pos rfl]
    by_cases c2 : 2 ≤ ps.length
    · rw [decide_eq_true (by omega), if_pos ⟨rfl, c2⟩]
      rw [show k + 2 = (k + 1) + 1 from rfl]
      generalize hQ : k + 1 = Q
      simp only [node_Split.j0]
      rw [if_pos trivial, p_splitLeaf ps h1 c2 (by omega), Option.bind_some]
    · rw [decide_eq_false (by omega), inner, if_neg (show ¬ (true = false ∧ 3 ≤ ks.length ∧ kids.length = ks.length + 1) by simp), if_neg (fun h : true = true ∧ 2 ≤ ps.length => c2 h.2)]
  | false =>
    rw [if_neg (show ¬ (false = true) by decide), inner]
    conv => rhs; rw [if_neg (show ¬ (false = true ∧ 2 ≤ ps.length) by simp)]
/-! ## the document's cut -/
theorem rs0_go (ps : List Pr) (ks : List ByteArray) (kids : List Int) (hs : sumP ps ≤ 10000000) : ∀ m i k : Nat, i + m + 1 = ps.length → 1 ≤ i →
    factotumref09_Split.l0 (k + m + 1) ((sumP ps : Nat) : Int) (i : Int) ((sumP (ps.take i) : Nat) : Int) true ps ks kids = some (leafS ps (cutG (ps.map wp) m i)) := by
  have hl := len_sumP ps
  intro m
  induction m with
  | zero =>
    intro i k hi h1
    simp only [factotumref09_Split.l0]
    rw [wrap_in ((ps.length : Int) - 1) (by omega), if_neg (by omega), if_pos (by omega), if_pos (by omega), if_pos (by omega), Int.toNat_natCast]
    rfl
  | succ m ih =>
    intro i k hi h1
    have hlt : i < ps.length := by omega
    have hw := mem_sumP ps _ (List.getElem_mem hlt)
    have ht := take_sum_le (ps.map wp) i
    have e : sumP (ps.take (i + 1)) = sumP (ps.take i) + wp ps[i] := by rw [sumP_take, sumP_take, sum_take _ _ (by rw [List.length_map]; exact hlt), List.getElem_map]
    rw [← sumP_take] at ht
    replace ht : sumP (ps.take i) ≤ sumP ps := ht
    rw [show k + (m + 1) + 1 = (k + m + 1) + 1 by omega]
    generalize hK : k + m + 1 = K
    simp only [factotumref09_Split.l0]
    subst hK
    rw [wrap_in ((ps.length : Int) - 1) (by omega), if_pos (by omega), wrap_in (2 * _) (by omega)]
    by_cases hc : 2 * sumP (ps.take i) < sumP ps
    · rw [if_pos (by omega), if_pos (by omega), if_pos (by omega), rdp ps i hlt, rpair _ (by unfold BIG; omega), Option.bind_some, nexti i (by omega), wrap_in _ (by omega)]
      rw [show ((sumP (ps.take i) : Nat) : Int) + ((wp ps[i] : Nat) : Int) = ((sumP (ps.take (i + 1)) : Nat) : Int) by rw [e]; rfl, ih (i + 1) k (by omega) (by omega)]
      have : cutG (ps.map wp) (m + 1) i = cutG (ps.map wp) m (i + 1) := by
        conv => lhs; unfold cutG
        rw [if_pos (by rw [← sumP_take]; exact hc)]
      rw [this]
    · rw [if_neg (by omega), if_pos (by omega), if_pos (by omega), if_pos (by omega), Int.toNat_natCast]
      have : cutG (ps.map wp) (m + 1) i = i := by
        conv => lhs; unfold cutG
        rw [if_neg (by rw [← sumP_take]; exact hc)]
      rw [this]; rfl
theorem rs1_go (ps : List Pr) (ks : List ByteArray) (kids : List Int) (hs : sumK ks ≤ 10000000) (hkl : kids.length = ks.length + 1) : ∀ m i k : Nat, i + m + 2 = ks.length → 1 ≤ i →
    factotumref09_Split.l1 (k + m + 1) ((sumK ks : Nat) : Int) (i : Int) ((sumK (ks.take i) : Nat) : Int) false ps ks kids = some (innS ks kids (cutG (ks.map wk) m i)) := by
  have hl := len_sumK ks
  intro m
  induction m with
  | zero =>
    intro i k hi h1
    simp only [factotumref09_Split.l1]
    rw [wrap_in ((ks.length : Int) - 2) (by omega), if_neg (by omega), if_pos (by omega), if_pos (by omega), nexti i (by omega), if_pos (by omega), if_pos (by omega), if_pos (by omega), if_pos (by omega), Int.toNat_natCast, Int.toNat_natCast]
    rfl
  | succ m ih =>
    intro i k hi h1
    have hlt : i < ks.length := by omega
    have hw := mem_sumK ks _ (List.getElem_mem hlt)
    have ht := take_sum_le (ks.map wk) i
    have e : sumK (ks.take (i + 1)) = sumK (ks.take i) + wk ks[i] := by rw [sumK_take, sumK_take, sum_take _ _ (by rw [List.length_map]; exact hlt), List.getElem_map]
    rw [← sumK_take] at ht
    replace ht : sumK (ks.take i) ≤ sumK ks := ht
    have hwk : wk ks[i] = 3 + ks[i].size := rfl
    rw [show k + (m + 1) + 1 = (k + m + 1) + 1 by omega]
    generalize hK : k + m + 1 = K
    simp only [factotumref09_Split.l1]
    subst hK
    rw [wrap_in ((ks.length : Int) - 2) (by omega), if_pos (by omega), wrap_in (2 * _) (by omega)]
    by_cases hc : 2 * sumK (ks.take i) < sumK ks
    · rw [if_pos (by omega), if_pos (by omega), if_pos (by omega), rds ks i hlt, nexti i (by omega), wrap_in (3 + _) (by omega), wrap_in _ (by omega)]
      rw [show ((sumK (ks.take i) : Nat) : Int) + (3 + (ks[i].size : Int)) = ((sumK (ks.take (i + 1)) : Nat) : Int) by rw [e]; omega, ih (i + 1) k (by omega) (by omega)]
      have : cutG (ks.map wk) (m + 1) i = cutG (ks.map wk) m (i + 1) := by
        conv => lhs; unfold cutG
        rw [if_pos (by rw [← sumK_take]; exact hc)]
      rw [this]
    · rw [if_neg (by omega), if_pos (by omega), if_pos (by omega), nexti i (by omega), if_pos (by omega), if_pos (by omega), if_pos (by omega), if_pos (by omega), Int.toNat_natCast, Int.toNat_natCast]
      have : cutG (ks.map wk) (m + 1) i = i := by
        conv => lhs; unfold cutG
        rw [if_neg (by rw [← sumK_take]; exact hc)]
      rw [this]; rfl
theorem r_split (leaf : Bool) (ps : List Pr) (ks : List ByteArray) (kids : List Int) (h : Bd ps ks kids) {k : Nat} (hk : FUEL ≤ k) : factotumref09_Split.f k leaf ps ks kids = some (splitN leaf ps ks kids) := by
  have lp := len_sumP ps
  have lk := len_sumK ks
  obtain ⟨h1, h2, h3⟩ := h
  unfold FUEL at hk
  obtain ⟨k, rfl⟩ : ∃ j, k = j + 2 := ⟨k - 2, by omega⟩
  unfold factotumref09_Split.f splitN
  have inner : ∀ leaf, factotumref09_Split.j0 (k + 2) false leaf ps ks kids = some (if leaf = false ∧ 3 ≤ ks.length ∧ kids.length = ks.length + 1 then innS ks kids (cutK ks) else (leaf, ps, ks, kids, false, [], [], [], ⟨#[]⟩)) := by
    intro leaf
    have jf : ∀ leaf, factotumref09_Split.j2 (k + 1) false leaf ps ks kids = some (leaf, ps, ks, kids, false, [], [], [], ⟨#[]⟩) := by
      intro leaf; simp only [factotumref09_Split.j2]; rw [if_neg (by decide)]
    rw [show k + 2 = (k + 1) + 1 from rfl]
    generalize hQ : k + 1 = Q at jf
    simp only [factotumref09_Split.j0]
    rw [if_neg (by decide)]
    cases leaf with
    | true => rw [if_pos rfl, jf, if_neg (by simp)]
    | false =>
      rw [if_neg (show ¬ (false = true) by decide)]
      by_cases c3 : 3 ≤ ks.length
      · rw [if_pos (by omega), wrap_in _ (by omega)]
        by_cases c4 : kids.length = ks.length + 1
        · rw [show ((kids.length : Int) == (ks.length : Int) + 1) = true by rw [beq_iff_eq]; omega, if_pos ⟨rfl, c3, c4⟩]
          have hwk : wk ks[0] = 3 + ks[0].size := rfl
          have e : sumK (ks.take 1) = wk ks[0] := by rw [sumK_take, show (1 : Nat) = 0 + 1 from rfl, sum_take _ _ (by rw [List.length_map]; omega), List.getElem_map]; simp
          have hw := mem_sumK ks _ (List.getElem_mem (show 0 < ks.length by omega))
          subst hQ
          simp only [factotumref09_Split.j2]
          rw [if_pos trivial, r_size false ps ks kids (by omega) (by unfold BIG; omega) (by unfold BIG; omega) (by unfold BIG; omega) (by unfold BIG; omega), Option.bind_some, if_pos (by omega)]
          have es : ((sizeN false ps ks : Nat) : Int) - 4 = ((sumK ks : Nat) : Int) := by
            unfold sizeN; rw [if_neg (show ¬ (false = true) by decide)]; omega
          rw [es, wrap_in ((sumK ks : Nat) : Int) (by omega), show (0 : Int) = ((0 : Nat) : Int) from rfl, rds ks 0 (by omega), wrap_in (3 + _) (by omega), show ((3 : Int) + (ks[0].size : Int)) = ((sumK (ks.take 1) : Nat) : Int) by rw [e]; omega]
          have := rs1_go ps ks kids h2 c4 (ks.length - 3) 1 (k - (ks.length - 3) - 1) (by omega) (by omega)
          rw [show k - (ks.length - 3) - 1 + (ks.length - 3) + 1 = k by omega] at this
          exact this
        · rw [show ((kids.length : Int) == (ks.length : Int) + 1) = false by rw [beq_eq_false_iff_ne]; omega, jf, if_neg (fun h => c4 h.2.2)]
      · rw [if_neg (by omega), jf, if_neg (fun h => c3 h.2.1)]
  cases leaf with
  | true =>
    rw [if_pos rfl]
    by_cases c2 : 2 ≤ ps.length
    · rw [decide_eq_true (by omega), if_pos ⟨rfl, c2⟩]
      rw [show k + 2 = (k + 1) + 1 from rfl]
      have e : sumP (ps.take 1) = wp ps[0] := by rw [sumP_take, show (1 : Nat) = 0 + 1 from rfl, sum_take _ _ (by rw [List.length_map]; omega), List.getElem_map]; simp
      have hw := mem_sumP ps _ (List.getElem_mem (show 0 < ps.length by omega))
      generalize hQ : k + 1 = Q
      simp only [factotumref09_Split.j0]
      rw [if_pos trivial, r_size true ps ks kids (by omega) (by unfold BIG; omega) (by unfold BIG; omega) (by unfold BIG; omega) (by unfold BIG; omega), Option.bind_some, if_pos (by omega), show (0 : Int) = ((0 : Nat) : Int) from rfl, rdp ps 0 (by omega), rpair _ (by unfold BIG; omega), Option.bind_some]
      have es : ((sizeN true ps ks : Nat) : Int) - 2 = ((sumP ps : Nat) : Int) := by
        unfold sizeN; rw [if_pos rfl]; omega
      rw [es, wrap_in ((sumP ps : Nat) : Int) (by omega), ← e]
      have := rs0_go ps ks kids h1 (ps.length - 2) 1 (Q - (ps.length - 2) - 1) (by omega) (by omega)
      rw [show Q - (ps.length - 2) - 1 + (ps.length - 2) + 1 = Q by omega] at this
      exact this
    · rw [decide_eq_false (by omega), inner, if_neg (show ¬ (true = false ∧ 3 ≤ ks.length ∧ kids.length = ks.length + 1) by simp), if_neg (fun h : true = true ∧ 2 ≤ ps.length => c2 h.2)]
  | false =>
    rw [if_neg (show ¬ (false = true) by decide), inner]
    conv => rhs; rw [if_neg (show ¬ (false = true ∧ 2 ≤ ps.length) by simp)]
/-! ## joined -/
abbrev TJ := Bool × List Pr × List ByteArray × List Int
def joinN (leaf : Bool) (ps : List Pr) (ks : List ByteArray) (kids : List Int) (ps' : List Pr) (ks' : List ByteArray) (kids' : List Int) (key : ByteArray) : TJ :=
  if leaf = true then (true, ps ++ ps', [], []) else (false, [], ks ++ [key] ++ ks', kids ++ kids')
theorem p_join (leaf leaf' : Bool) (ps : List Pr) (ks : List ByteArray) (kids : List Int) (ps' : List Pr) (ks' : List ByteArray) (kids' : List Int) (key : ByteArray) (h : Bd ps ks kids) (h' : Bd ps' ks' kids') :
    node_Join.f leaf ps ks kids leaf' ps' ks' kids' key = some (joinN leaf ps ks kids ps' ks' kids' key) := by
  have lp := len_sumP ps
  have lk := len_sumK ks
  have lp' := len_sumP ps'
  have lk' := len_sumK ks'
  obtain ⟨h1, h2, h3⟩ := h
  obtain ⟨h1', h2', h3'⟩ := h'
  unfold node_Join.f joinN
  cases leaf with
  | true => rw [if_pos rfl, if_pos rfl, if_pos (by omega)]
  | false => rw [if_neg (show ¬ (false = true) by decide), if_neg (show ¬ (false = true) by decide), if_pos (by omega), if_pos (by omega)]
theorem r_join (leaf leaf' : Bool) (ps : List Pr) (ks : List ByteArray) (kids : List Int) (ps' : List Pr) (ks' : List ByteArray) (kids' : List Int) (key : ByteArray) (h : Bd ps ks kids) (h' : Bd ps' ks' kids') :
    factotumref09_Join.f leaf ps ks kids leaf' ps' ks' kids' key = some (joinN leaf ps ks kids ps' ks' kids' key) := by
  have lp := len_sumP ps
  have lk := len_sumK ks
  have lp' := len_sumP ps'
  have lk' := len_sumK ks'
  obtain ⟨h1, h2, h3⟩ := h
  obtain ⟨h1', h2', h3'⟩ := h'
  unfold factotumref09_Join.f joinN
  simp only [List.nil_append, List.length_nil, List.length_append, List.length_singleton, Option.bind_some]
  cases leaf with
  | true => rw [if_pos rfl, if_pos rfl, if_pos (by omega), if_pos (by omega)]
  | false => rw [if_neg (show ¬ (false = true) by decide), if_neg (show ¬ (false = true) by decide), if_pos (by omega), if_pos (by omega), if_pos (by omega), if_pos (by omega), if_pos (by omega)]
/-! ## a node is itself -/
theorem same2 (a : Bool) (ps : List Pr) (ks : List ByteArray) (kids : List Int) (hl : kids.length ≤ BIG) : ∀ m i k : Nat, i + m = kids.length → factotumref09_Same.l2 (k + m + 1) (i : Int) a ps ks kids a ps ks kids = some true := by
  unfold BIG at hl
  intro m
  induction m with
  | zero =>
    intro i k hi
    simp only [factotumref09_Same.l2]
    rw [if_neg (by omega)]
  | succ m ih =>
    intro i k hi
    rw [show k + (m + 1) + 1 = (k + m + 1) + 1 by omega]
    generalize hK : k + m + 1 = K
    simp only [factotumref09_Same.l2]
    subst hK
    rw [if_pos (by omega), if_pos (by omega), if_pos (by omega), if_pos trivial, nexti i (by omega), ih (i + 1) k (by omega)]
theorem same1 (a : Bool) (ps : List Pr) (ks : List ByteArray) (kids : List Int) (hk : ks.length ≤ BIG) (hl : kids.length ≤ BIG) : ∀ m i k : Nat, i + m = ks.length → kids.length + 1 ≤ k → factotumref09_Same.l1 (k + m + 1) (i : Int) a ps ks kids a ps ks kids = some true := by
  have hk' := hk
  unfold BIG at hk'
  intro m
  induction m with
  | zero =>
    intro i k hi hf
    simp only [factotumref09_Same.l1]
    rw [if_neg (by omega)]
    have := same2 a ps ks kids hl kids.length 0 (k - kids.length - 1) (by omega)
    rw [show k - kids.length - 1 + kids.length + 1 = k by omega] at this
    exact this
  | succ m ih =>
    intro i k hi hf
    rw [show k + (m + 1) + 1 = (k + m + 1) + 1 by omega]
    generalize hK : k + m + 1 = K
    simp only [factotumref09_Same.l1]
    subst hK
    rw [if_pos (by omega), if_pos (by omega), if_pos (by omega), if_pos trivial, nexti i (by omega), ih (i + 1) k (by omega) hf]
theorem same0 (a : Bool) (ps : List Pr) (ks : List ByteArray) (kids : List Int) (hp : ps.length ≤ BIG) (hk : ks.length ≤ BIG) (hl : kids.length ≤ BIG) : ∀ m i k : Nat, i + m = ps.length → ks.length + kids.length + 2 ≤ k → factotumref09_Same.l0 (k + m + 1) (i : Int) a ps ks kids a ps ks kids = some true := by
  have hp' := hp
  unfold BIG at hp'
  intro m
  induction m with
  | zero =>
    intro i k hi hf
    simp only [factotumref09_Same.l0]
    rw [if_neg (by omega)]
    have := same1 a ps ks kids hk hl ks.length 0 (k - ks.length - 1) (by omega) (by omega)
    rw [show k - ks.length - 1 + ks.length + 1 = k by omega] at this
    exact this
  | succ m ih =>
    intro i k hi hf
    rw [show k + (m + 1) + 1 = (k + m + 1) + 1 by omega]
    generalize hK : k + m + 1 = K
    simp only [factotumref09_Same.l0]
    subst hK
    rw [if_pos (by omega), if_pos (by omega), if_pos (by omega), if_neg (by simp), nexti i (by omega), ih (i + 1) k (by omega) hf]
theorem same (a : Bool) (ps : List Pr) (ks : List ByteArray) (kids : List Int) (hp : ps.length ≤ BIG) (hk : ks.length ≤ BIG) (hl : kids.length ≤ BIG) {k : Nat} (hf : ps.length + ks.length + kids.length + 5 ≤ k) : factotumref09_Same.f k a ps ks kids a ps ks kids = some true := by
  unfold factotumref09_Same.f
  obtain ⟨k, rfl⟩ : ∃ j, k = j + 1 := ⟨k - 1, by omega⟩
  rw [if_neg (by simp), if_pos rfl, if_pos rfl]
  simp only [factotumref09_Same.j0]
  rw [if_neg (by simp)]
  have := same0 a ps ks kids hp hk hl ps.length 0 (k - ps.length - 1) (by omega) (by omega)
  rw [show k - ps.length - 1 + ps.length + 1 = k by omega] at this
  exact this
/-- the parts of what is small are small -/
theorem bd_take {ps : List Pr} {ks : List ByteArray} {kids : List Int} (h : Bd ps ks kids) (a b c a' b' c' : Nat) : Bd ((ps.drop a').take a) ((ks.drop b').take b) ((kids.drop c').take c) := by
  obtain ⟨h1, h2, h3⟩ := h
  refine ⟨?_, ?_, ?_⟩
  · have x := take_sum_le ((ps.drop a').map wp) a
    have y := drop_sum_le (ps.map wp) a'
    rw [← sumP_take] at x
    rw [← sumP_drop] at y
    have : sumP ps = (ps.map wp).sum := rfl
    have : sumP (ps.drop a') = ((ps.drop a').map wp).sum := rfl
    omega
  · have x := take_sum_le ((ks.drop b').map wk) b
    have y := drop_sum_le (ks.map wk) b'
    rw [← sumK_take] at x
    rw [← sumK_drop] at y
    have : sumK ks = (ks.map wk).sum := rfl
    have : sumK (ks.drop b') = ((ks.drop b').map wk).sum := rfl
    omega
  · rw [List.length_take, List.length_drop]; omega
theorem bd_nil : Bd [] [] [] := ⟨Nat.zero_le _, Nat.zero_le _, Nat.zero_le _⟩
/-- both parts are small -/
theorem bd_split {leaf : Bool} {ps : List Pr} {ks : List ByteArray} {kids : List Int} (h : Bd ps ks kids) :
    Bd (splitN leaf ps ks kids).2.1 (splitN leaf ps ks kids).2.2.1 (splitN leaf ps ks kids).2.2.2.1 ∧ Bd (splitN leaf ps ks kids).2.2.2.2.2.1 (splitN leaf ps ks kids).2.2.2.2.2.2.1 (splitN leaf ps ks kids).2.2.2.2.2.2.2.1 := by
  have t := fun a b c a' b' c' => bd_take h a b c a' b' c'
  unfold splitN
  split
  · refine ⟨⟨?_, Nat.zero_le _, Nat.zero_le _⟩, ⟨?_, Nat.zero_le _, Nat.zero_le _⟩⟩
    · have := (t (cutP ps) 0 0 0 0 0).p; rw [List.drop_zero] at this; exact this
    · have := (t ps.length 0 0 (cutP ps) 0 0).p; rw [List.take_of_length_le (by rw [List.length_drop]; omega)] at this; exact this
  · split
    · refine ⟨⟨Nat.zero_le _, ?_, ?_⟩, ⟨Nat.zero_le _, ?_, ?_⟩⟩
      · have := (t 0 (cutK ks) 0 0 0 0).k; rw [List.drop_zero] at this; exact this
      · have := (t 0 0 (cutK ks + 1) 0 0 0).c; rw [List.drop_zero] at this; exact this
      · have := (t 0 ks.length 0 0 (cutK ks + 1) 0).k; rw [List.take_of_length_le (by rw [List.length_drop]; omega)] at this; exact this
      · have := (t 0 0 kids.length 0 0 (cutK ks + 1)).c; rw [List.take_of_length_le (by rw [List.length_drop]; omega)] at this; exact this
    · exact ⟨h, bd_nil⟩
end Go.Proofs.Ytokjbncjapndgaa.XN
