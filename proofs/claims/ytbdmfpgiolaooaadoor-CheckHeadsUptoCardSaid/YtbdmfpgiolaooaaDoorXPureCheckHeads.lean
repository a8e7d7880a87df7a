/- The plain law of CheckHeads. Condition: the bulk's bound. -/
import Derived.Test.YtbdmfpgiolaooaaDoorXReachW
namespace Go.Proofs.YtbdmfpgiolaooaaDoor.Pure
open Go.RowKit Go.Proofs.YtbdmfpgiolaooaaDoor.PAll Go.Proofs.YtbdmfpgiolaooaaDoor.XI Go.Proofs.YtbdmfpgiolaooaaDoorW.PrintWords Go.Proofs.YtbdmfpgiolaooaaDoor.XV
abbrev In := S32
def mv (n : Int) (x : In) : In := if goes x then ⟨x.f0, x.f1 + n, x.f2, x.f3, x.f4⟩ else x
theorem mv_f0 (n : Int) (x : In) : (mv n x).f0 = x.f0 := by unfold mv; split <;> rfl
theorem mv_goes (n : Int) (x : In) : goes (mv n x) ↔ goes x := by unfold goes; rw [mv_f0]
theorem mv_stops (n : Int) (x : In) : stops (mv n x) = stops x := by unfold stops; rw [mv_f0]
theorem goes_n {x : In} (h : goes x) : 0 < opN x.f0 := by
  rcases h with h | h <;> (rw [h]; decide)
theorem mv_regs (n : Int) (x : In) : regs (mv n x) = regs x := by
  unfold mv
  by_cases h : goes x
  · rw [if_pos h]
    unfold regs
    have hc : x.f0 = 9 ∨ x.f0 = 10 ∨ x.f0 = 16 := by rcases h with h | h; exact .inl h; exact .inr (.inl h)
    simp only
    rw [if_pos hc]
    obtain ⟨m, hm⟩ : ∃ m, (opN x.f0).toNat = m + 1 := ⟨(opN x.f0).toNat - 1, by have := goes_n h; omega⟩
    rw [hm]; rfl
  · rw [if_neg h]
theorem mv_ok (n : Int) (x : In) (h : instOK x = true) (hn : 0 ≤ n) (hg : goes x → x.f1 + n ≤ 255) : instOK (mv n x) = true := by
  unfold mv
  by_cases hx : goes x
  · rw [if_pos hx]
    have hin := goal_in h hx
    have hp := goes_n hx
    have hb := hg hx
    unfold instOK argsOK at h ⊢
    simp only [Bool.and_eq_true] at h ⊢
    refine ⟨h.1, ⟨?_, h.2.1.2⟩, ?_⟩
    · unfold argOK
      rw [decide_eq_true (show 0 ≤ x.f1 + n ∧ x.f1 + n ≤ 255 by omega), decide_eq_true hp]; rfl
    · have := h.2.2
      unfold vOK at this ⊢
      exact this
  · rw [if_neg hx]; exact h
theorem goal_lt {l : List In} (h : XI.Good l) {x : In} (hx : x ∈ l) (hg : goes x) : x.f1 < (l.length : Int) := by
  have h2 := h.goal x hx
  unfold badT at h2
  have h3 := of_decide_eq_false h2
  by_cases h4 : x.f1 < (l.length : Int)
  · exact h4
  · exact absurd ⟨hg, by omega⟩ h3
theorem last_of {l : List In} (h : XI.Good l) : ∃ i, ∃ hi : i < l.length, i + 1 = l.length ∧ stops l[i] = true :=
  ⟨l.length - 1, by have := h.pos; omega, by have := h.pos; omega, last_stops l h _ (by have := h.pos; omega) (by have := h.pos; omega)⟩
theorem good_two {a b : List In} (ha : XI.Good a) (hb : XI.Good b) (h64 : a.length + b.length ≤ 64) : XI.Good (a ++ b.map (mv (a.length : Int))) := by
  have ha0 := ha.pos
  have hb0 := hb.pos
  have hl : (a ++ b.map (mv (a.length : Int))).length = a.length + b.length := by simp
  refine ⟨by rw [hl]; omega, by rw [hl]; exact h64, ?_, ?_, ?_, ?_⟩
  · intro x hx
    rcases List.mem_append.1 hx with hx | hx
    · exact ha.inst x hx
    · obtain ⟨y, hy, rfl⟩ := List.mem_map.1 hx
      exact mv_ok _ y (hb.inst y hy) (by omega) (fun hg => by have := goal_lt hb hy hg; omega)
  · intro x hx
    rcases List.mem_append.1 hx with hx | hx
    · exact ha.regs x hx
    · obtain ⟨y, hy, rfl⟩ := List.mem_map.1 hx
      have := hb.regs y hy
      unfold badR at this ⊢
      rw [mv_regs]; exact this
  · intro x hx
    unfold badT
    rw [hl]
    rcases List.mem_append.1 hx with hx | hx
    · exact decide_eq_false (fun z => by have := goal_lt ha hx z.1; omega)
    · obtain ⟨y, hy, rfl⟩ := List.mem_map.1 hx
      refine decide_eq_false (fun z => ?_)
      have hg := (mv_goes _ y).1 z.1
      have h1 := goal_lt hb hy hg
      have h2 := z.2
      unfold mv at h2
      rw [if_pos hg] at h2
      simp only at h2
      omega
  · obtain ⟨i, hi, he, hs⟩ := last_of hb
    rw [hl, show ((a.length + b.length : Nat) : Int) - 1 = ((a.length + i : Nat) : Int) by omega, rdi _ _ (by rw [hl]; omega), List.getElem_append_right (by omega)]
    simp only [List.getElem_map, Nat.add_sub_cancel_left]
    rw [mv_stops]; exact hs
def done : In := ⟨18, 0, 0, 0, ⟨0, 0, ⟨#[]⟩⟩⟩
theorem done_ok : instOK done = true ∧ badR done = false ∧ stops done = true := by
  refine ⟨?_, by decide, by decide⟩
  have hv : vOK done = true := by unfold vOK done zeroV; rw [if_neg (by decide)]; simp only [Lib.toList_data]; rfl
  unfold instOK
  rw [hv]; decide
theorem good_done {a : List In} (ha : XI.Good a) (h64 : a.length + 1 ≤ 64) : XI.Good (a ++ [done]) := by
  have hl : (a ++ [done]).length = a.length + 1 := by simp
  obtain ⟨d1, d2, d3⟩ := done_ok
  refine ⟨by rw [hl]; omega, by rw [hl]; exact h64, ?_, ?_, ?_, ?_⟩
  · intro x hx
    rcases List.mem_append.1 hx with hx | hx
    · exact ha.inst x hx
    · obtain rfl := List.mem_singleton.1 hx; exact d1
  · intro x hx
    rcases List.mem_append.1 hx with hx | hx
    · exact ha.regs x hx
    · obtain rfl := List.mem_singleton.1 hx; exact d2
  · intro x hx
    unfold badT
    rw [hl]
    rcases List.mem_append.1 hx with hx | hx
    · exact decide_eq_false (fun z => by have := goal_lt ha hx z.1; omega)
    · obtain rfl := List.mem_singleton.1 hx
      exact decide_eq_false (fun z => by rcases z.1 with h | h <;> exact absurd h (by decide))
  · rw [hl, show ((a.length + 1 : Nat) : Int) - 1 = (a.length : Int) by omega, rdi _ _ (by rw [hl]; omega), List.getElem_append_right (Nat.le_refl _)]
    simp only [Nat.sub_self, List.getElem_singleton]
    exact d3
theorem fit_mv (n : Int) (x : In) (h : Fit x) (hg : goes x → i64 (x.f1 + n)) : Fit (mv n x) := by
  unfold mv
  by_cases hx : goes x
  · rw [if_pos hx]; exact ⟨hg hx, h.b, h.c, h.s⟩
  · rw [if_neg hx]; exact h
theorem heads_end (a b : List In) (ha : XI.Good a) (hb : XI.Good b) (fa : ∀ x ∈ a, Fit x) (fb : ∀ x ∈ b, Fit x) (h64 : a.length + b.length ≤ 64) {k : Nat} (hk : 15 ≤ k) :
    factotumlaw15_CheckHeads.l0 (k + 1) a b (a ++ b.map (mv (a.length : Int))) (b.length : Int) = some true := by
  have hb0 := hb.pos
  simp only [factotumlaw15_CheckHeads.l0]
  have f1 : ∀ x ∈ a ++ b.map (mv (a.length : Int)), Fit x := by
    intro x hx
    rcases List.mem_append.1 hx with hx | hx
    · exact fa x hx
    · obtain ⟨y, hy, rfl⟩ := List.mem_map.1 hx
      refine fit_mv _ y (fb y hy) (fun hg => ?_)
      have h1 := goal_lt hb hy hg
      have h2 := goal_in (hb.inst y hy) hg
      unfold i64; omega
  have f2 : ∀ x ∈ a ++ [done], Fit x := by
    intro x hx
    rcases List.mem_append.1 hx with hx | hx
    · exact fa x hx
    · obtain rfl := List.mem_singleton.1 hx
      exact ⟨by unfold i64 done; decide, by unfold i64 done; decide, by unfold i64 done; decide, Nat.zero_le _⟩
  rw [if_neg (by omega), p_check _ f1 hk, chk_of (good_two ha hb h64), Option.bind_some, if_pos (by simp; omega), Option.bind_some, List.nil_append, if_pos (by omega)]
  rw [show (⟨18, 0, 0, 0, (⟨0, 0, (⟨#[]⟩ : ByteArray)⟩ : Vl)⟩ : In) = done from rfl, p_check _ f2 hk, chk_of (good_done ha (by omega)), Option.bind_some, if_pos rfl, if_pos rfl]
  unfold factotumref13_Same.f
  rw [if_neg (by simp; omega)]; rfl
theorem heads_go (a b : List In) (ha : XI.Good a) (hb : XI.Good b) (fa : ∀ x ∈ a, Fit x) (fb : ∀ x ∈ b, Fit x) (h64 : a.length + b.length ≤ 64) : ∀ (m i k : Nat), i + m = b.length → 15 ≤ k →
    factotumlaw15_CheckHeads.l0 (k + m + 1) a b (a ++ (b.take i).map (mv (a.length : Int))) (i : Int) = some true := by
  intro m
  induction m with
  | zero =>
    intro i k hi hk
    have : i = b.length := by omega
    subst this
    rw [List.take_length]
    exact heads_end a b ha hb fa fb h64 hk
  | succ m ih =>
    intro i k hi hk
    have hlt : i < b.length := by omega
    have e := ih (i + 1) k (by omega) hk
    have ht : (b.take (i + 1)).map (mv (a.length : Int)) = (b.take i).map (mv (a.length : Int)) ++ [mv (a.length : Int) b[i]] := by
      rw [List.take_succ_eq_append_getElem hlt, List.map_append]; rfl
    rw [ht, ← List.append_assoc] at e
    rw [show k + (m + 1) + 1 = (k + m + 1) + 1 by omega]
    generalize hK : k + m + 1 = K at e
    have hlen : (a ++ (b.take i).map (mv (a.length : Int))).length ≤ 200 := by simp; omega
    simp only [factotumlaw15_CheckHeads.l0]
    rw [if_pos (by omega), if_pos (by omega), rdi b i hlt, nexti i (by omega)]
    by_cases hg : goes b[i]
    · have h1 := goal_lt hb (List.getElem_mem hlt) hg
      have h2 := goal_in (hb.inst _ (List.getElem_mem hlt)) hg
      have hw : wrap64 (b[i].f1 + (a.length : Int)) = b[i].f1 + (a.length : Int) := by unfold wrap64; omega
      have hm : mv (a.length : Int) b[i] = ⟨b[i].f0, b[i].f1 + (a.length : Int), b[i].f2, b[i].f3, b[i].f4⟩ := by unfold mv; rw [if_pos hg]
      rw [hm] at e
      rw [hw]
      by_cases h9 : b[i].f0 = 9
      · rw [if_pos h9, if_pos (by omega)]; exact e
      · have h10 : b[i].f0 = 10 := by rcases hg with h | h; exact absurd h h9; exact h
        rw [if_neg h9, if_pos h10, if_pos (by omega)]; exact e
    · have hm : mv (a.length : Int) b[i] = b[i] := by unfold mv; rw [if_neg hg]
      rw [hm] at e
      rw [if_neg (fun z => hg (.inl z)), if_neg (fun z => hg (.inr z)), if_pos (by omega)]; exact e
theorem CheckHeads (a b : List S32) (ia : ∀ x ∈ a, XA.in32 x) (ib : ∀ x ∈ b, XA.in32 x) (hb : ((a.map XA.wt32).sum + 1) + ((b.map XA.wt32).sum + 1) ≤ 1048576) : ∃ k, factotumlaw15_CheckHeads.f k a b = some true := by
  refine ⟨5001, ?_⟩
  have hF : 5000 + 1 = 5001 := rfl
  rw [← hF]
  generalize hK : 5000 = K
  have hK' : 5000 ≤ K := by omega
  have fa := fit_all a ia (by omega)
  have fb := fit_all b ib (by omega)
  have jt : factotumlaw15_CheckHeads.j0 (K + 1) a b true = some true := by simp only [factotumlaw15_CheckHeads.j0]; rw [if_pos trivial]
  unfold factotumlaw15_CheckHeads.f
  rw [live15 (by omega), Option.bind_some, if_pos rfl, p_check a fa (by omega), p_check b fb (by omega), Option.bind_some, Option.bind_some, jt]
  by_cases h0 : (chkE a).1 = 0
  · by_cases h1 : (chkE b).1 = 0
    · have ga := chk_ok h0
      have gb := chk_ok h1
      have a64 := ga.most
      have b64 := gb.most
      rw [if_pos h0, if_pos h1, IntWalk.wrap64_in _ ⟨by omega, by omega⟩]
      by_cases h64 : (a.length : Int) + (b.length : Int) > 64
      · rw [decide_eq_true h64]; exact jt
      · rw [decide_eq_false h64]
        simp only [factotumlaw15_CheckHeads.j0]
        rw [if_neg (by decide), if_pos (by simp; omega), List.nil_append]
        have := heads_go a b ga gb fa fb (by omega) b.length 0 (K - b.length - 1) (by omega) (by omega)
        rw [show K - b.length - 1 + b.length + 1 = K by omega] at this
        simpa using this
    · rw [if_pos h0, if_neg h1]
  · rw [if_neg h0]
end Go.Proofs.YtbdmfpgiolaooaaDoor.Pure
