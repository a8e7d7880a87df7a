/- Which instructions can be come to: the program's stack and the document's rounds mark the same. Plain laws over the printed functions. No conditions. -/
import Derived.Test.YtbdmfpgiolaooaaDoorXCheck
import Derived.Test.YtbdmfpgiolaooaaDoorXA
import Derived.Test.YtbdmfpgiolaooaaDoorXReach
namespace Go.Proofs.YtbdmfpgiolaooaaDoor.XI
open Go.RowKit Go.Proofs.YtbdmfpgiolaooaaDoor.XW Go.Proofs.YtbdmfpgiolaooaaDoor.XLib Go.Proofs.YtbdmfpgiolaooaaDoor.PAll Go.Proofs.YtbdmfpgiolaooaaDoorW.PrintWords Go.Proofs.YtbdmfpgiolaooaaDoorW.PrintLast Go.Proofs.YtbdmfpgiolaooaaDoor.XP Go.Proofs.YtbdmfpgiolaooaaDoor.XV Go.Proofs.YtbdmfpgiolaooaaDoor.XG
/-- what is known of a program that may be run -/
structure Good (l : List In) : Prop where
  pos : 0 < l.length
  most : l.length ≤ 64
  inst : ∀ x ∈ l, instOK x = true
  regs : ∀ x ∈ l, badR x = false
  goal : ∀ x ∈ l, badT (l.length : Int) x = false
  last : stops (rd_T32 l ((l.length : Int) - 1)) = true
theorem any_false {p : In → Bool} {l : List In} (h : ¬ 0 ≤ fi p l 0) : ∀ x ∈ l, p x = false := by
  intro x hx
  have h1 : ¬ l.any p = true := fun z => h ((fi_any p l 0 (Int.le_refl _)).2 z)
  cases hp : p x with
  | false => rfl
  | true => exact absurd (List.any_eq_true.2 ⟨x, hx, hp⟩) h1
theorem any_neg {p : In → Bool} {l : List In} (h : ∀ x ∈ l, p x = false) : ¬ 0 ≤ fi p l 0 := by
  intro z
  obtain ⟨x, hx, hp⟩ := List.any_eq_true.1 ((fi_any p l 0 (Int.le_refl _)).1 z)
  rw [h x hx] at hp; cases hp
theorem chk_ok {l : List In} (h : (chkE l).1 = 0) : Good l := by
  unfold chkE codE regE tgtE lastE at h
  by_cases h0 : l.length = 0
  · rw [if_pos h0] at h; cases h
  · rw [if_neg h0] at h
    by_cases h64 : 64 < l.length
    · rw [if_pos h64] at h; cases h
    · rw [if_neg h64] at h
      by_cases c3 : 0 ≤ fi (fun x => !instOK x) l 0
      · rw [if_pos c3] at h; cases h
      · rw [if_neg c3] at h
        by_cases c2 : 0 ≤ fi badR l 0
        · rw [if_pos c2] at h; cases h
        · rw [if_neg c2] at h
          by_cases c1 : 0 ≤ fi (badT (l.length : Int)) l 0
          · rw [if_pos c1] at h; cases h
          · rw [if_neg c1] at h
            by_cases hs : stops (rd_T32 l ((l.length : Int) - 1)) = true
            · exact ⟨by omega, by omega, fun x hx => by simpa using any_false c3 x hx, any_false c2, any_false c1, hs⟩
            · rw [if_neg hs] at h; cases h
theorem chk_of {l : List In} (h : Good l) : chkE l = (0, 0) := by
  have h1 := h.pos
  have h2 := h.most
  unfold chkE codE regE tgtE lastE
  rw [if_neg (by omega), if_neg (by omega), if_neg (any_neg (fun x hx => by rw [h.inst x hx]; rfl)), if_neg (any_neg h.regs), if_neg (any_neg h.goal), if_pos h.last]
section
variable (l : List In)
def eT (i : Nat) : Option Nat := if h : i < l.length then (if goes l[i] then some l[i].f1.toNat else none) else none
def eN (i : Nat) : Bool := if h : i < l.length then !stops l[i] else false
theorem goal_in {x : In} (hi : instOK x = true) (_ : goes x) : 0 ≤ x.f1 ∧ x.f1 ≤ 255 := by
  unfold instOK argsOK argOK at hi
  simp only [Bool.and_eq_true, decide_eq_true_eq] at hi
  exact hi.2.1.1.1
theorem eT_lt (h : Good l) : ∀ i t, i < l.length → eT l i = some t → t < l.length := by
  intro i t hi ht
  unfold eT at ht
  rw [dif_pos hi] at ht
  by_cases hg : goes l[i]
  · rw [if_pos hg] at ht
    obtain rfl := Option.some.inj ht
    have h1 := goal_in (h.inst _ (List.getElem_mem hi)) hg
    have h2 := h.goal _ (List.getElem_mem hi)
    unfold badT at h2
    have h3 : ¬ (goes l[i] ∧ l[i].f1 ≥ (l.length : Int)) := of_decide_eq_false h2
    have : ¬ l[i].f1 ≥ (l.length : Int) := fun z => h3 ⟨hg, z⟩
    omega
  · rw [if_neg hg] at ht; cases ht
theorem last_stops (h : Good l) (i : Nat) (hi : i < l.length) (hl : i + 1 = l.length) : stops l[i] = true := by
  have h1 := h.last
  rw [show (l.length : Int) - 1 = (i : Int) by omega, rdi l i hi] at h1
  exact h1
theorem eN_lt (h : Good l) : ∀ i, i < l.length → eN l i = true → i + 1 < l.length := by
  intro i hi hn
  rcases Nat.lt_or_ge (i + 1) l.length with h1 | h1
  · exact h1
  · unfold eN at hn
    rw [dif_pos hi, last_stops l h i hi (by omega)] at hn; cases hn
def cst (wt : List Nat) : List Int := wt.map fun k : Nat => (k : Int)
theorem count_set {o : List Bool} {k : Nat} (hk : k < o.length) (h : at_ o k = false) : o.count true < (o.set k true).count true := by
  obtain ⟨h1, h2⟩ := count_le _ _ (le_set o k)
  rcases Nat.lt_or_ge (o.count true) ((o.set k true).count true) with h3 | h3
  · exact h3
  · have e := h2 (by omega)
    have : at_ (o.set k true) k = true := by rw [at_set, if_pos ⟨rfl, hk⟩]
    rw [← e, h] at this; cases this
theorem rdo (o : List Bool) (k : Nat) : rdOf false o (k : Int) = at_ o k := by unfold rdOf at_; rw [Int.toNat_natCast]
theorem p_go (h : Good l) : ∀ (M : Nat) (o : List Bool) (wt : List Nat) (K : Nat), Inv (eT l) (eN l) l.length o wt → 3 * (l.length - o.count true) + wt.length ≤ M → M ≤ 1000 → M + 1 ≤ K → ∃ o', check_Reached.l0 K l o (cst wt) = some o' ∧ Inv (eT l) (eN l) l.length o' [] := by
  have h64 := h.most
  intro M
  induction M with
  | zero =>
    intro o wt K hI hm _ hK
    obtain rfl : wt = [] := List.eq_nil_of_length_eq_zero (by omega)
    obtain ⟨K, rfl⟩ : ∃ j, K = j + 1 := ⟨K - 1, by omega⟩
    refine ⟨o, ?_, hI⟩
    simp only [check_Reached.l0]
    rw [if_neg (by show ¬ ((0 : Int) > 0); decide)]
  | succ M ih =>
    intro o wt K hI hm hM hK
    obtain ⟨K, rfl⟩ : ∃ j, K = j + 1 := ⟨K - 1, by omega⟩
    rcases List.eq_nil_or_concat wt with rfl | ⟨w', k0, rfl⟩
    · refine ⟨o, ?_, hI⟩
      simp only [check_Reached.l0]
      rw [if_neg (by show ¬ ((0 : Int) > 0); decide)]
    · rw [List.concat_eq_append] at hI hm ⊢
      have hlen : (cst (w' ++ [k0])).length = w'.length + 1 := by unfold cst; simp
      have hwl : w'.length ≤ 1000 := by simp only [List.length_append, List.length_singleton] at hm; omega
      have hw : wrap64 (((cst (w' ++ [k0])).length : Int) - 1) = (w'.length : Int) := by rw [hlen]; exact (IntWalk.wrap64_in _ ⟨by omega, by omega⟩).trans (by omega)
      have htk : (cst (w' ++ [k0])).take w'.length = cst w' := by unfold cst; rw [List.map_append, List.take_left' (by simp)]
      have hrd : rd (cst (w' ++ [k0])) (w'.length : Int) = (k0 : Int) := by
        rw [rdn _ _ (by rw [hlen]; omega)]
        unfold cst
        rw [List.getElem_map, List.getElem_append_right (Nat.le_refl _)]; simp
      have hk0 : k0 < l.length := hI.inn k0 (by simp)
      have hol := hI.len
      have hcw : (cst w').length = w'.length := by unfold cst; simp
      simp only [check_Reached.l0]
      rw [hw, hrd, Int.toNat_natCast, htk, rdo, rdi l k0 hk0, p_target, p_ends]
      rw [if_pos (by rw [hlen]; omega), if_pos (by omega), if_pos (by rw [hlen]; omega), if_pos (by rw [hlen]; omega), Option.bind_some, if_pos (by omega), if_pos (by omega)]
      have hmm : 3 * (l.length - o.count true) + w'.length ≤ M := by simp only [List.length_append, List.length_singleton] at hm; omega
      cases hat : at_ o k0 with
      | true =>
        rw [if_pos rfl]
        exact ih o w' K (hI.skip _ _ hat) hmm (by omega) (by omega)
      | false =>
        rw [if_neg (by decide), Option.bind_some, if_pos (by omega), Option.bind_some, Int.toNat_natCast]
        have hI2 := hI.take _ _ (eT_lt l h k0 · hk0) (eN_lt l h k0 hk0)
        have hc := count_set (by omega : k0 < o.length) hat
        have hcl : (o.set k0 true).count true ≤ l.length := by rw [← hI2.len]; exact List.count_le_length
        have hwk : wrap64 ((k0 : Int) + 1) = ((k0 + 1 : Nat) : Int) := nexti k0 (by omega)
        have fin : ∀ nx : List Nat, next (eT l) (eN l) k0 = nx → nx.length ≤ 2 → ∃ o', check_Reached.l0 K l (o.set k0 true) (cst (w' ++ nx)) = some o' ∧ Inv (eT l) (eN l) l.length o' [] := by
          intro nx hnx hl2
          rw [hnx] at hI2
          exact ih _ _ K hI2 (by rw [List.length_append]; omega) (by omega) (by omega)
        have eNk : eN l k0 = !stops l[k0] := by unfold eN; rw [dif_pos hk0]
        by_cases hg : goes l[k0]
        · have hin := goal_in (h.inst _ (List.getElem_mem hk0)) hg
          have eTk : eT l k0 = some l[k0].f1.toNat := by unfold eT; rw [dif_pos hk0, if_pos hg]
          have hc1 : cst w' ++ [l[k0].f1] = cst (w' ++ [l[k0].f1.toNat]) := by unfold cst; simp; omega
          rw [if_pos hg]
          simp only [if_true]
          rw [if_pos (by rw [hcw]; omega), Option.bind_some, Option.bind_some, hc1]
          cases hs : stops l[k0] with
          | true =>
            rw [if_pos rfl]
            exact fin [l[k0].f1.toNat] (by unfold next; rw [eTk, eNk, hs]; rfl) (by simp)
          | false =>
            have hc2 : cst (w' ++ [l[k0].f1.toNat]) ++ [((k0 + 1 : Nat) : Int)] = cst (w' ++ [l[k0].f1.toNat, k0 + 1]) := by unfold cst; simp
            rw [if_neg (by decide), if_pos (by unfold cst; simp; omega), hwk, hc2]
            exact fin [l[k0].f1.toNat, k0 + 1] (by unfold next; rw [eTk, eNk, hs]; rfl) (by simp)
        · have eTk : eT l k0 = none := by unfold eT; rw [dif_pos hk0, if_neg hg]
          rw [if_neg hg]
          simp only [Bool.false_eq_true, if_false]
          rw [Option.bind_some]
          cases hs : stops l[k0] with
          | true =>
            rw [if_pos rfl]
            have := fin [] (by unfold next; rw [eTk, eNk, hs]; rfl) (by simp)
            rwa [List.append_nil] at this
          | false =>
            have hc2 : cst w' ++ [((k0 + 1 : Nat) : Int)] = cst (w' ++ [k0 + 1]) := by unfold cst; simp
            rw [if_neg (by decide), if_pos (by rw [hcw]; omega), hwk, hc2]
            exact fin [k0 + 1] (by unfold next; rw [eTk, eNk, hs]; rfl) (by simp)
/-- which can be come to -/
def reachE : List Bool := rounds (eT l) (eN l) l.length ((List.replicate l.length false).set 0 true) l.length
theorem p_reach (h : Good l) {K : Nat} (hK : 1001 ≤ K) : check_Reached.l0 K l (List.replicate l.length false) [0] = some (reachE l) ∧ Inv (eT l) (eN l) l.length (reachE l) [] := by
  have h64 := h.most
  obtain ⟨o', h1, h2⟩ := p_go l h 1000 _ _ K (Inv.start (eT l) (eN l) l.length h.pos) (by simp; omega) (Nat.le_refl _) (by omega)
  have e := same (eT l) (eN l) h.pos (eT_lt l h) (eN_lt l h) h2
  unfold reachE
  rw [e]
  exact ⟨h1, h2⟩
theorem p_reached (hl : ∀ x ∈ l, Fit x) {k : Nat} (hk : 1001 ≤ k) : check_Reached.f k l = some (if (chkE l).1 = 0 then reachE l else []) := by
  unfold check_Reached.f
  rw [p_check l hl (by omega), Option.bind_some]
  by_cases h0 : (chkE l).1 = 0
  · have h64 := (chk_ok h0).most
    rw [if_pos h0, if_pos h0, if_pos (by omega), Int.toNat_natCast, if_pos (by omega)]
    exact (p_reach l (chk_ok h0) hk).1
  · rw [if_neg h0, if_neg h0]
end
theorem live15 {k : Nat} (hk : 64 ≤ k) : factotumlaw15_lives.f k = some true := by
  have h : factotumlaw15_lives.f 64 = some true := by kernel_rfl
  obtain ⟨j, rfl⟩ : ∃ j, k = j + 64 := ⟨k - 64, by omega⟩
  induction j with
  | zero => exact h
  | succ j ih => rw [show j + 1 + 64 = (j + 64) + 1 by omega]; exact factotumlaw15_lives.mono _ _ (ih (by omega))
theorem fit_of (x : In) (h : XA.in32 x) (hb : XA.wt32 x ≤ 1048576) : Fit x := by
  obtain ⟨_, h1, h2, h3, _⟩ := h
  have e : XA.wt32 x = 1 + 1 + 1 + 1 + (1 + 1 + (x.f4.f2.size + 1) + 1) + 1 := rfl
  exact ⟨h1, h2, h3, by unfold SZ; omega⟩
theorem fit_all (l : List In) (h : ∀ x ∈ l, XA.in32 x) (hb : (l.map XA.wt32).sum ≤ 1048576) : ∀ x ∈ l, Fit x := by
  induction l with
  | nil => intro x hx; cases hx
  | cons y l ih =>
    rw [List.map_cons, List.sum_cons] at hb
    intro x hx
    rcases List.mem_cons.1 hx with rfl | hx
    · exact fit_of x (h x (by simp)) (by omega)
    · exact ih (fun z hz => h z (by simp [hz])) (by omega) x hx
end Go.Proofs.YtbdmfpgiolaooaaDoor.XI
