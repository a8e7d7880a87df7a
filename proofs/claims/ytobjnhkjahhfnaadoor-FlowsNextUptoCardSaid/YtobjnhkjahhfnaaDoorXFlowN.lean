/- What effects make of a workflow: the program and the document's answer. Plain laws over the printed functions. No conditions. -/
import Derived.Test.YtobjnhkjahhfnaaDoorXFlow
namespace Go.Proofs.YtobjnhkjahhfnaaDoor.XF
open Go.RowKit Go.Proofs.YtobjnhkjahhfnaaDoor.XW Go.Proofs.YtobjnhkjahhfnaaDoor.XLib Go.Proofs.YtobjnhkjahhfnaaDoor.PAll Go.Proofs.YtobjnhkjahhfnaaDoorW.PrintWords Go.Proofs.YtobjnhkjahhfnaaDoorW.PrintLast Go.Proofs.YtobjnhkjahhfnaaDoor.XP Go.Proofs.YtobjnhkjahhfnaaDoor.XV Go.Proofs.YtobjnhkjahhfnaaDoor.XE
def zV : Vl := ⟨0, 0, ⟨#[]⟩⟩
def nV (n : Int) : Vl := ⟨1, n, ⟨#[]⟩⟩
theorem fin_ (b : Bool) (x y : T15) : ((some b).bind fun t => if t = true then some x else some y) = some (if b = true then x else y) := by cases b <;> rfl
theorem right_1 {id pr : Int} {arg : Vl} {sp ti : Int} {v : Vl} {pc : Int} {rg : List Vl} {ca : Bool} (h : rightF id pr arg 1 sp ti v pc rg ca = true) : v = zV ∧ ti = 0 ∧ ca = false ∧ 0 ≤ sp ∧ sp ≤ 24 := by
  unfold rightF headF tailF at h
  rw [if_pos rfl] at h
  simp only [Bool.and_eq_true, Bool.not_eq_true', decide_eq_true_eq] at h
  exact ⟨zeroV_eq h.2.2.2.1, h.2.2.2.2, h.2.1, h.1.2.2.1.1, h.1.2.2.1.2⟩
def nextT (id pr : Int) (arg : Vl) (st sp ti : Int) (v : Vl) (pc : Int) (rg : List Vl) (ca : Bool) (sl en : Int) (ev : Vl) (pc2 : Int) (rg2 : List Vl) (now : Int) : T15 :=
  if rightF id pr arg st sp ti v pc rg ca = true then
    if st = 1 then
      if sp = 24 then errT 13
      else if en = 0 then
        if sp + 1 = 24 then endT id pr arg 4 24 0 (nV (-2)) 0 [] false
        else if sl > 0 then endT id pr arg 2 (sp + 1) (wrap64 (now + sl)) zV pc2 rg2 false
        else endT id pr arg 1 (sp + 1) 0 zV pc2 rg2 false
      else if en = 1 then endT id pr arg 3 (sp + 1) 0 ev 0 [] false
      else if en = 2 then endT id pr arg 4 (sp + 1) 0 ev 0 [] false
      else if en = 3 then endT id pr arg 4 (sp + 1) 0 (nV (-1)) 0 [] false
      else errT 4
    else errT 13
  else errT 4
theorem p_next (id pr : Int) (arg : Vl) (st sp ti : Int) (v : Vl) (pc : Int) (rg : List Vl) (ca : Bool) (l0 : List S144) (l1 : List Vl) (l2 : List S146) (sl en : Int) (ev : Vl) (pc2 : Int) (rg2 : List Vl) (now : Int)
    (ha : arg.f2.size ≤ SZ) (hv : v.f2.size ≤ SZ) (hs : ∀ u ∈ rg, u.f2.size ≤ SZ) (hv2 : ev.f2.size ≤ SZ) (hs2 : ∀ u ∈ rg2, u.f2.size ≤ SZ) (hl2 : rg2.length ≤ 1000000000) {k : Nat} (hk : 20 ≤ k) :
    flows_Next.f k id pr arg.f0 arg.f1 arg.f2 st sp ti v.f0 v.f1 v.f2 pc rg ca l0 l1 l2 sl en ev.f0 ev.f1 ev.f2 pc2 rg2 now = some (nextT id pr arg st sp ti v pc rg ca sl en ev pc2 rg2 now) := by
  unfold flows_Next.f nextT
  rw [p_right id pr arg st sp ti v pc rg ca ha hv hs (by omega), Option.bind_some]
  cases hr : rightF id pr arg st sp ti v pc rg ca with
  | false => rfl
  | true =>
    rw [if_pos rfl, if_pos rfl]
    by_cases h1 : st = 1
    · subst h1
      obtain ⟨rfl, rfl, rfl, s0, s1⟩ := right_1 hr
      rw [if_pos rfl, if_pos rfl]
      by_cases h24 : sp = 24
      · rw [if_pos h24, if_pos h24]; rfl
      · rw [if_neg h24, if_neg h24, IntWalk.wrap64_in (sp + 1) ⟨by omega, by omega⟩]
        obtain ⟨j, rfl⟩ : ∃ j, k = j + 2 := ⟨k - 2, by omega⟩
        have j1 : ∀ (q : Nat) (s t : Int) (x : Vl) (p : Int) (r : List Vl), 18 ≤ q → x.f2.size ≤ SZ → (∀ u ∈ r, u.f2.size ≤ SZ) → flows_Next.j1 (q + 1) id pr arg.f0 arg.f1 arg.f2 s (sp + 1) t x.f0 x.f1 x.f2 p r false = some (endT id pr arg s (sp + 1) t x p r false) := by
          intro q s t x p r hq hx hr
          simp only [flows_Next.j1]
          rw [p_right id pr arg s (sp + 1) t x p r false ha hx hr hq]
          exact fin_ _ _ _
        have hn : ∀ u ∈ ([] : List Vl), u.f2.size ≤ SZ := fun u hu => by cases hu
        have j0 : ∀ (s t : Int), flows_Next.j0 (j + 1 + 1) id pr arg.f0 arg.f1 arg.f2 s (sp + 1) t zV.f0 zV.f1 zV.f2 pc2 rg2 false = some (if sp + 1 = 24 then endT id pr arg 4 (sp + 1) 0 (nV (-2)) 0 [] false else endT id pr arg s (sp + 1) t zV pc2 rg2 false) := by
          intro s t
          simp only [flows_Next.j0]
          by_cases h : sp + 1 = 24
          · rw [if_pos h, if_pos h]
            exact j1 j 4 0 (nV (-2)) 0 [] (by omega) (Nat.zero_le _) hn
          · rw [if_neg h, if_neg h]
            exact j1 j s t zV pc2 rg2 (by omega) (Nat.zero_le _) hs2
        by_cases e0 : en = 0
        · rw [if_pos e0, if_pos e0]
          unfold api_Value_32.f
          rw [if_pos (by omega), Option.bind_some, j0, j0]
          by_cases h : sp + 1 = 24
          · rw [if_pos h, if_pos h, if_pos h, h]; split <;> rfl
          · rw [if_neg h, if_neg h, if_neg h]; split <;> rfl
        · rw [if_neg e0, if_neg e0]
          by_cases e1 : en = 1
          · rw [if_pos e1, if_pos e1]
            exact j1 (j + 1) 3 0 ev 0 [] (by omega) hv2 hn
          · rw [if_neg e1, if_neg e1]
            by_cases e2 : en = 2
            · rw [if_pos e2, if_pos e2]
              exact j1 (j + 1) 4 0 ev 0 [] (by omega) hv2 hn
            · rw [if_neg e2, if_neg e2]
              by_cases e3 : en = 3
              · rw [if_pos e3, if_pos e3]
                exact j1 (j + 1) 4 0 (nV (-1)) 0 [] (by omega) (Nat.zero_le _) hn
              · rw [if_neg e3, if_neg e3]; rfl
    · rw [if_neg h1, if_neg h1]; rfl
theorem w64_sum (a b : Int) : wrap64 (IntKind.u64.wrap (IntKind.u64.wrap a + IntKind.u64.wrap b)) = wrap64 (a + b) := by
  rw [wrapu, wrapu, wrapu]; unfold wrap64; omega
theorem r_fin (id pr : Int) (arg : Vl) (st sp ti v0 v1 : Int) (v2 : ByteArray) (pc : Int) (rg : List Vl) {k : Nat} (hk : 18 ≤ k) :
    factotumref21_Next.fin k id pr arg.f0 arg.f1 arg.f2 st sp ti v0 v1 v2 pc rg = some (endT id pr arg st sp ti ⟨v0, v1, v2⟩ pc rg false) := by
  unfold factotumref21_Next.fin endT
  have := r_right id pr arg st sp ti ⟨v0, v1, v2⟩ pc rg false hk
  simp only at this
  rw [this]
  exact fin_ _ _ _
theorem r_next (id pr : Int) (arg : Vl) (st sp ti : Int) (v : Vl) (pc : Int) (rg : List Vl) (ca : Bool) (l0 : List S144) (l1 : List Vl) (l2 : List S146) (sl en : Int) (ev : Vl) (pc2 : Int) (rg2 : List Vl) (now : Int) {k : Nat} (hk : 20 ≤ k) :
    factotumref21_Next.f k id pr arg.f0 arg.f1 arg.f2 st sp ti v.f0 v.f1 v.f2 pc rg ca l0 l1 l2 sl en ev.f0 ev.f1 ev.f2 pc2 rg2 now = some (nextT id pr arg st sp ti v pc rg ca sl en ev pc2 rg2 now) := by
  unfold factotumref21_Next.f nextT
  rw [r_right id pr arg st sp ti v pc rg ca (by omega), Option.bind_some]
  cases hr : rightF id pr arg st sp ti v pc rg ca with
  | false => rfl
  | true =>
    rw [if_pos rfl, if_pos rfl]
    by_cases h1 : st = 1
    · subst h1
      obtain ⟨rfl, rfl, rfl, s0, s1⟩ := right_1 hr
      rw [if_pos rfl, if_pos rfl]
      by_cases h24 : sp = 24
      · rw [if_pos (show sp ≥ 24 by omega), if_pos h24]; rfl
      · rw [if_neg (show ¬ sp ≥ 24 by omega), if_neg h24, IntWalk.wrap64_in (sp + 1) ⟨by omega, by omega⟩, w64_sum]
        by_cases e0 : en = 0
        · rw [if_pos e0, if_pos e0]
          by_cases h : sp + 1 = 24
          · rw [if_pos (show sp + 1 ≥ 24 by omega), if_pos h, r_fin _ _ _ _ _ _ _ _ _ _ _ (by omega), h]; rfl
          · rw [if_neg (show ¬ sp + 1 ≥ 24 by omega), if_neg h]
            by_cases hsl : sl > 0
            · rw [if_pos hsl, if_pos hsl, r_fin _ _ _ _ _ _ _ _ _ _ _ (by omega)]; rfl
            · rw [if_neg hsl, if_neg hsl, r_fin _ _ _ _ _ _ _ _ _ _ _ (by omega)]; rfl
        · rw [if_neg e0, if_neg e0]
          by_cases e1 : en = 1
          · rw [if_pos e1, if_pos e1, r_fin _ _ _ _ _ _ _ _ _ _ _ (by omega)]
          · rw [if_neg e1, if_neg e1]
            by_cases e2 : en = 2
            · rw [if_pos e2, if_pos e2, r_fin _ _ _ _ _ _ _ _ _ _ _ (by omega)]
            · rw [if_neg e2, if_neg e2]
              by_cases e3 : en = 3
              · rw [if_pos e3, if_pos e3, r_fin _ _ _ _ _ _ _ _ _ _ _ (by omega)]; rfl
              · rw [if_neg e3, if_neg e3]; rfl
    · rw [if_neg h1, if_neg h1]; rfl
/-- a result's row -/
def rowT (t : T15) : List Vl := t.2.2.2.2.2.2.2.2.2.2.2.2.1
theorem row_err (x : Int) (l : List Vl) : (rowT (errT x)).length ≤ l.length := Nat.zero_le _
theorem row_nil (id pr : Int) (arg : Vl) (s p t : Int) (w : Vl) (l : List Vl) : (rowT (endT id pr arg s p t w 0 [] false)).length ≤ l.length := Nat.le_trans (endT_len id pr arg s p t w 0 [] false) (Nat.zero_le _)
theorem row_end (id pr : Int) (arg : Vl) (s p t : Int) (w : Vl) (pc : Int) (l : List Vl) : (rowT (endT id pr arg s p t w pc l false)).length ≤ l.length := endT_len id pr arg s p t w pc l false
theorem row_ite {c : Prop} [Decidable c] {a b : T15} {l : List Vl} (h1 : (rowT a).length ≤ l.length) (h2 : (rowT b).length ≤ l.length) : (rowT (if c then a else b)).length ≤ l.length := by
  by_cases h : c
  · rw [if_pos h]; exact h1
  · rw [if_neg h]; exact h2
theorem nextT_row (id pr : Int) (arg : Vl) (st sp ti : Int) (v : Vl) (pc : Int) (rg : List Vl) (ca : Bool) (sl en : Int) (ev : Vl) (pc2 : Int) (rg2 : List Vl) (now : Int) : (rowT (nextT id pr arg st sp ti v pc rg ca sl en ev pc2 rg2 now)).length ≤ rg2.length := by
  unfold nextT
  exact row_ite (row_ite (row_ite (row_err _ _) (row_ite (row_ite (row_nil _ _ _ _ _ _ _ _) (row_ite (row_end _ _ _ _ _ _ _ _ _) (row_end _ _ _ _ _ _ _ _ _))) (row_ite (row_nil _ _ _ _ _ _ _ _) (row_ite (row_nil _ _ _ _ _ _ _ _) (row_ite (row_nil _ _ _ _ _ _ _ _) (row_err _ _)))))) (row_err _ _)) (row_err _ _)
theorem nextT_len (id pr : Int) (arg : Vl) (st sp ti : Int) (v : Vl) (pc : Int) (rg : List Vl) (ca : Bool) (sl en : Int) (ev : Vl) (pc2 : Int) (rg2 : List Vl) (now : Int) : (nextT id pr arg st sp ti v pc rg ca sl en ev pc2 rg2 now).2.2.2.2.2.2.2.2.2.2.2.2.1.length ≤ rg2.length := nextT_row id pr arg st sp ti v pc rg ca sl en ev pc2 rg2 now
end Go.Proofs.YtobjnhkjahhfnaaDoor.XF
