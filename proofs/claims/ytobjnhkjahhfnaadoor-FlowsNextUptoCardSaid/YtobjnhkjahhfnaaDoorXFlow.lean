/- Workflows: which may be, how they begin, what effects make of them: what the program and the document's answer compute. Plain laws over the printed functions. No conditions. -/
import Derived.Test.YtobjnhkjahhfnaaDoorXEff
import Derived.Test.YtobjnhkjahhfnaaDoorXA
namespace Go.Proofs.YtobjnhkjahhfnaaDoor.XF
open Go.RowKit Go.Proofs.YtobjnhkjahhfnaaDoor.XW Go.Proofs.YtobjnhkjahhfnaaDoor.XLib Go.Proofs.YtobjnhkjahhfnaaDoor.PAll Go.Proofs.YtobjnhkjahhfnaaDoorW.PrintWords Go.Proofs.YtobjnhkjahhfnaaDoorW.PrintLast Go.Proofs.YtobjnhkjahhfnaaDoor.XP Go.Proofs.YtobjnhkjahhfnaaDoor.XV Go.Proofs.YtobjnhkjahhfnaaDoor.XE
abbrev Vl := S24
def SZ : Nat := 1099511627776
def zeroV (v : Vl) : Bool := v.f0 == 0 && (v.f1 == 0 && (v.f2.toList == ([] : List UInt8)))
theorem zeroV_eq {v : Vl} (h : zeroV v = true) : v = ⟨0, 0, ⟨#[]⟩⟩ := by
  unfold zeroV at h
  simp only [Bool.and_eq_true, beq_iff_eq] at h
  exact eq_mk v h.1 h.2.1 (empty_of _ h.2.2)
theorem zeroV_zero : zeroV ⟨0, 0, ⟨#[]⟩⟩ = true := by unfold zeroV; simp only [Lib.toList_data]; rfl
theorem f_odd (v : Vl) (h : v.f2.size ≤ SZ) {k : Nat} (hk : 9 ≤ k) : flows_odd.f k v.f0 v.f1 v.f2 = some (!valOK v) := by
  obtain ⟨j, rfl⟩ : ∃ j, k = j + 9 := ⟨k - 9, by omega⟩
  unfold flows_odd.f
  rw [e_value j v h]
  cases valOK v <;> rfl
theorem rdv (l : List Vl) (i : Nat) (h : i < l.length) : rd_T24 l (i : Int) = l[i] := by
  unfold rd_T24; rw [Int.toNat_natCast, List.getD_eq_getElem?_getD, List.getElem?_eq_getElem h]; rfl
theorem nexti (i : Nat) (h : i < 140737488355328) : wrap64 ((i : Int) + 1) = ((i + 1 : Nat) : Int) := (IntWalk.wrap64_in _ ⟨by omega, by omega⟩).trans (by omega)
theorem index_o (l : List Vl) (hl : l.length ≤ 1000000000) (hs : ∀ u ∈ l, u.f2.size ≤ SZ) : ∀ m i k : Nat, i + m = l.length → 9 ≤ k → ∃ r, slices_IndexFunc_at_flows_odd.l0 (k + m + 1) l (l.length : Int) (i : Int) = some r ∧ decide (r ≥ 0) = !(l.drop i).all valOK := by
  intro m
  induction m with
  | zero =>
    intro i k hi _
    refine ⟨-1, ?_, ?_⟩
    · simp only [slices_IndexFunc_at_flows_odd.l0]; rw [if_neg (by omega)]
    · rw [List.drop_eq_nil_of_le (by omega)]; rfl
  | succ m ih =>
    intro i k hi h9
    have hlt : i < l.length := by omega
    rw [show k + (m + 1) + 1 = (k + m + 1) + 1 by omega]
    generalize hK : k + m + 1 = K
    simp only [slices_IndexFunc_at_flows_odd.l0]
    rw [if_pos (by omega), if_pos (by omega), if_pos (by omega), rdv l i hlt, f_odd _ (hs _ (List.getElem_mem hlt)) (by omega), Option.bind_some, List.drop_eq_getElem_cons hlt, List.all_cons]
    subst hK
    cases valOK l[i] with
    | false => exact ⟨(i : Int), if_pos rfl, by simp⟩
    | true =>
      rw [if_neg (by decide), nexti i (by omega)]
      obtain ⟨r, h1, h2⟩ := ih (i + 1) k (by omega) h9
      exact ⟨r, h1, by rw [h2]; simp⟩
theorem contains_o (l : List Vl) (hl : l.length = 6) (hs : ∀ u ∈ l, u.f2.size ≤ SZ) {k : Nat} (hk : 16 ≤ k) : slices_ContainsFunc_at_flows_odd.f k l = some (!l.all valOK) := by
  obtain ⟨r, h1, h2⟩ := index_o l (by omega) hs l.length 0 (k - l.length - 1) (by omega) (by omega)
  rw [show k - l.length - 1 + l.length + 1 = k by omega] at h1
  unfold slices_ContainsFunc_at_flows_odd.f slices_IndexFunc_at_flows_odd.f
  rw [show (0 : Int) = ((0 : Nat) : Int) from rfl, h1, Option.bind_some]
  exact congrArg some h2
theorem within (a b : Int) : flows_within.f a b = some (decide (0 ≤ a ∧ a ≤ b)) := by
  unfold flows_within.f
  by_cases h : a ≥ 0
  · rw [if_pos h]; congr 1; simp [h]
  · rw [if_neg h, decide_eq_false (by omega)]
def goesF (pc : Int) (rg : List Vl) : Bool := decide (0 ≤ pc ∧ pc ≤ 255) && (decide (rg.length = 6) && rg.all valOK)
def standsF (pc ti : Int) (rg : List Vl) : Bool := decide (pc = 0) && (decide (rg.length = 0) && decide (ti = 0))
def tailF (none goes stands : Bool) (st ti : Int) (v : Vl) : Bool :=
  if st = 1 then goes && (none && decide (ti = 0)) else if st = 2 then goes && (none && decide (0 ≤ ti ∧ ti ≤ 1152921504606846976)) else if st = 3 ∨ st = 4 then stands && valOK v else decide (st = 5) && (stands && none)
def headF (id pr : Int) (arg : Vl) (sp : Int) : Bool := decide (0 ≤ id ∧ id ≤ 65535) && (decide (0 ≤ pr ∧ pr ≤ 255) && (decide (0 ≤ sp ∧ sp ≤ 24) && valOK arg))
def rightF (id pr : Int) (arg : Vl) (st sp ti : Int) (v : Vl) (pc : Int) (rg : List Vl) (ca : Bool) : Bool :=
  headF id pr arg sp && (!ca && tailF (zeroV v) (goesF pc rg) (standsF pc ti rg) st ti v)
theorem right_j2 (id pr : Int) (arg : Vl) (st sp ti : Int) (v : Vl) (pc : Int) (rg : List Vl) (ca none goes stands : Bool) (hv : v.f2.size ≤ SZ) {k : Nat} (hk : 16 ≤ k) :
    flows_right.j2 k none goes stands id pr arg.f0 arg.f1 arg.f2 st sp ti v.f0 v.f1 v.f2 pc rg ca = some (tailF none goes stands st ti v) := by
  obtain ⟨k, rfl⟩ : ∃ j, k = j + 2 := ⟨k - 2, by omega⟩
  have j3 : ∀ b : Bool, flows_right.j3 (k + 1) none stands st b id pr arg.f0 arg.f1 arg.f2 st sp ti v.f0 v.f1 v.f2 pc rg ca = some (if b = true then stands && valOK v else decide (st = 5) && (stands && none)) := by
    intro b
    simp only [flows_right.j3]
    cases b with
    | true =>
      rw [if_pos rfl, if_pos rfl]
      cases stands with
      | true => rw [if_pos rfl, f_odd v hv (by omega), Option.bind_some]; simp
      | false => rfl
    | false =>
      simp only [Bool.false_eq_true, if_false]
      by_cases h : st = 5
      · rw [if_pos h, decide_eq_true h]; cases stands <;> cases none <;> rfl
      · rw [if_neg h, decide_eq_false h]; rfl
  simp only [flows_right.j2]
  unfold tailF
  by_cases h1 : st = 1
  · rw [if_pos h1, if_pos h1]
    cases goes <;> cases none <;> simp
    by_cases h : ti = 0 <;> simp [h]
  · rw [if_neg h1, if_neg h1]
    by_cases h2 : st = 2
    · rw [if_pos h2, if_pos h2]
      cases goes <;> cases none <;> simp
      by_cases h : 0 ≤ ti
      · simp [h]
      · simp [h]
    · rw [if_neg h2, if_neg h2, j3, j3]
      by_cases h3 : st = 3
      · rw [if_pos h3, if_pos (Or.inl h3), if_pos (by simp [h3])]
      · rw [if_neg h3]
        by_cases h4 : st = 4
        · rw [if_pos (by simp [h4]), if_pos (Or.inr h4)]
        · rw [if_neg (by simp [h4]), if_neg (by omega)]
theorem right_j0 (id pr : Int) (arg : Vl) (st sp ti : Int) (v : Vl) (pc : Int) (rg : List Vl) (ca b : Bool) (hv : v.f2.size ≤ SZ) (hs : ∀ u ∈ rg, u.f2.size ≤ SZ) {k : Nat} (hk : 18 ≤ k) :
    flows_right.j0 k b id pr arg.f0 arg.f1 arg.f2 st sp ti v.f0 v.f1 v.f2 pc rg ca = some (!b && tailF (zeroV v) (goesF pc rg) (standsF pc ti rg) st ti v) := by
  obtain ⟨k, rfl⟩ : ∃ j, k = j + 2 := ⟨k - 2, by omega⟩
  have j1 : ∀ goes : Bool, flows_right.j1 (k + 1) (v.f0 == 0 && (v.f1 == 0 && (v.f2.toList == ([] : List UInt8)))) goes id pr arg.f0 arg.f1 arg.f2 st sp ti v.f0 v.f1 v.f2 pc rg ca = some (tailF (zeroV v) goes (standsF pc ti rg) st ti v) := by
    intro goes
    simp only [flows_right.j1]
    rw [show (v.f0 == 0 && (v.f1 == 0 && (v.f2.toList == ([] : List UInt8)))) = zeroV v from rfl]
    unfold standsF
    by_cases h : pc = 0
    · rw [if_pos h, decide_eq_true h]
      by_cases h2 : rg.length = 0
      · rw [if_pos (by omega), decide_eq_true h2, right_j2 _ _ _ _ _ _ _ _ _ _ _ _ _ hv (by omega)]
        rw [show (ti == 0) = decide (ti = 0) from rfl]; rfl
      · rw [if_neg (by omega), decide_eq_false h2, right_j2 _ _ _ _ _ _ _ _ _ _ _ _ _ hv (by omega)]; rfl
    · rw [if_neg h, decide_eq_false h, right_j2 _ _ _ _ _ _ _ _ _ _ _ _ _ hv (by omega)]; rfl
  simp only [flows_right.j0]
  cases b with
  | true => rfl
  | false =>
    simp only [Bool.false_eq_true, if_false]
    rw [within, Option.bind_some]
    unfold goesF
    by_cases h : 0 ≤ pc ∧ pc ≤ 255
    · rw [decide_eq_true h, if_pos rfl]
      by_cases h2 : rg.length = 6
      · rw [if_pos (by omega), decide_eq_true h2, contains_o rg h2 hs (by omega), Option.bind_some, j1]; simp
      · rw [if_neg (by omega), decide_eq_false h2, j1]; simp
    · rw [decide_eq_false h, if_neg (by decide), j1]; simp
theorem p_right (id pr : Int) (arg : Vl) (st sp ti : Int) (v : Vl) (pc : Int) (rg : List Vl) (ca : Bool) (ha : arg.f2.size ≤ SZ) (hv : v.f2.size ≤ SZ) (hs : ∀ u ∈ rg, u.f2.size ≤ SZ) {k : Nat} (hk : 18 ≤ k) :
    flows_right.f k id pr arg.f0 arg.f1 arg.f2 st sp ti v.f0 v.f1 v.f2 pc rg ca = some (rightF id pr arg st sp ti v pc rg ca) := by
  unfold flows_right.f rightF headF
  rw [within, within, within, f_odd arg ha (by omega), Option.bind_some, right_j0 _ _ _ _ _ _ _ _ _ _ _ hv hs hk, right_j0 _ _ _ _ _ _ _ _ _ _ _ hv hs hk]
  by_cases h1 : 0 ≤ id ∧ id ≤ 65535
  · rw [decide_eq_true h1, if_pos rfl, Option.bind_some]
    by_cases h2 : 0 ≤ pr ∧ pr ≤ 255
    · rw [decide_eq_true h2, if_pos rfl, Option.bind_some]
      by_cases h3 : 0 ≤ sp ∧ sp ≤ 24
      · rw [decide_eq_true h3, if_pos rfl, Option.bind_some]
        cases valOK arg <;> rfl
      · rw [decide_eq_false h3]; rfl
    · rw [decide_eq_false h2]; rfl
  · rw [decide_eq_false h1]; rfl
theorem frame_go (pc : Int) (rg : List Vl) (hl : rg.length ≤ 1000000000) : ∀ m i k : Nat, i + m = rg.length → factotumref21_frame.l0 (k + m + 1) (i : Int) pc rg = some ((rg.drop i).all valOK) := by
  intro m
  induction m with
  | zero =>
    intro i k hi
    simp only [factotumref21_frame.l0]
    rw [if_neg (by omega), List.drop_eq_nil_of_le (by omega)]; rfl
  | succ m ih =>
    intro i k hi
    have hlt : i < rg.length := by omega
    rw [show k + (m + 1) + 1 = (k + m + 1) + 1 by omega]
    generalize hK : k + m + 1 = K
    simp only [factotumref21_frame.l0]
    subst hK
    rw [if_pos (by omega), if_pos (by omega), rdv rg i hlt, r_is, Option.bind_some, List.drop_eq_getElem_cons hlt, List.all_cons, nexti i (by omega), ih (i + 1) k (by omega)]
    cases valOK rg[i] <;> rfl
theorem r_frame (pc : Int) (rg : List Vl) {k : Nat} (hk : 9 ≤ k) : factotumref21_frame.f k pc rg = some (goesF pc rg) := by
  obtain ⟨k, rfl⟩ : ∃ j, k = j + 1 := ⟨k - 1, by omega⟩
  unfold factotumref21_frame.f goesF
  by_cases h1 : pc < 0
  · rw [if_pos h1, decide_eq_false (by omega)]; rfl
  · rw [if_neg h1]
    by_cases h2 : pc > 255
    · rw [if_pos h2, decide_eq_false (by omega)]; rfl
    · rw [if_neg h2, decide_eq_true (by omega), Bool.true_and]
      simp only [factotumref21_frame.j0]
      by_cases h3 : rg.length = 6
      · have := frame_go pc rg (by omega) rg.length 0 (k - rg.length - 1) (by omega)
        rw [show k - rg.length - 1 + rg.length + 1 = k by omega, List.drop_zero] at this
        rw [if_neg (by simp; omega), decide_eq_true h3, Bool.true_and]
        exact this
      · rw [if_pos (by simp; omega), decide_eq_false h3]; rfl
theorem rright_j0 (id pr : Int) (arg : Vl) (st sp ti : Int) (v : Vl) (pc : Int) (rg : List Vl) (ca b : Bool) {k : Nat} (hk : 18 ≤ k) :
    factotumref21_Right.j0 k b id pr arg.f0 arg.f1 arg.f2 st sp ti v.f0 v.f1 v.f2 pc rg ca = some (!b && tailF (zeroV v) (goesF pc rg) (standsF pc ti rg) st ti v) := by
  obtain ⟨k, rfl⟩ : ∃ j, k = j + 2 := ⟨k - 2, by omega⟩
  have j1 : ∀ e : Bool, factotumref21_Right.j1 (k + 1) (v.f0 == 0 && (v.f1 == 0 && (v.f2.toList == ([] : List UInt8)))) e id pr arg.f0 arg.f1 arg.f2 st sp ti v.f0 v.f1 v.f2 pc rg ca = some (tailF (zeroV v) (goesF pc rg) (e && decide (ti = 0)) st ti v) := by
    intro e
    simp only [factotumref21_Right.j1]
    rw [show (v.f0 == 0 && (v.f1 == 0 && (v.f2.toList == ([] : List UInt8)))) = zeroV v from rfl, r_frame pc rg (by omega), r_is, Option.bind_some, Option.bind_some]
    unfold tailF
    by_cases h1 : st = 1
    · rw [if_pos h1, if_pos h1]
      by_cases h : ti = 0
      · rw [if_pos h]; cases zeroV v <;> cases goesF pc rg <;> simp [h]
      · rw [if_neg h]; simp [h]
    · rw [if_neg h1, if_neg h1]
      by_cases h2 : st = 2
      · rw [if_pos h2, if_pos h2]
        by_cases h : 0 ≤ ti
        · rw [if_pos h]
          by_cases h' : ti ≤ 1152921504606846976
          · rw [if_pos h']; cases zeroV v <;> cases goesF pc rg <;> simp [h, h']
          · rw [if_neg h']; simp [h']
        · rw [if_neg h]; simp [h]
      · rw [if_neg h2, if_neg h2]
        by_cases h3 : st = 3
        · rw [if_pos h3, if_pos (Or.inl h3)]
          by_cases h : ti = 0
          · rw [if_pos h]; cases valOK v <;> cases e <;> simp [h]
          · rw [if_neg h]; simp [h]
        · rw [if_neg h3]
          by_cases h4 : st = 4
          · rw [if_pos h4, if_pos (Or.inr h4)]
            by_cases h : ti = 0
            · rw [if_pos h]; cases valOK v <;> cases e <;> simp [h]
            · rw [if_neg h]; simp [h]
          · rw [if_neg h4, if_neg (show ¬ (st = 3 ∨ st = 4) by omega)]
            by_cases h5 : st = 5
            · rw [if_pos h5, decide_eq_true h5]
              by_cases h : ti = 0
              · rw [if_pos h]; cases zeroV v <;> cases e <;> simp [h]
              · rw [if_neg h]; simp [h]
            · rw [if_neg h5, decide_eq_false h5]; rfl
  simp only [factotumref21_Right.j0]
  cases b with
  | true => rfl
  | false =>
    simp only [Bool.false_eq_true, if_false]
    unfold standsF
    by_cases h : pc = 0
    · rw [if_pos h, j1, decide_eq_true h]
      rw [show (((rg.length : Int) == 0)) = decide (rg.length = 0) by by_cases h2 : rg.length = 0 <;> simp [h2]]
      rfl
    · rw [if_neg h, j1, decide_eq_false h]; rfl
theorem r_right (id pr : Int) (arg : Vl) (st sp ti : Int) (v : Vl) (pc : Int) (rg : List Vl) (ca : Bool) {k : Nat} (hk : 18 ≤ k) :
    factotumref21_Right.f k id pr arg.f0 arg.f1 arg.f2 st sp ti v.f0 v.f1 v.f2 pc rg ca = some (rightF id pr arg st sp ti v pc rg ca) := by
  unfold factotumref21_Right.f rightF headF
  rw [r_is, Option.bind_some, rright_j0 _ _ _ _ _ _ _ _ _ _ _ hk, rright_j0 _ _ _ _ _ _ _ _ _ _ _ hk]
  by_cases h1 : id < 0
  · rw [if_pos h1, decide_eq_false (show ¬ (0 ≤ id ∧ id ≤ 65535) by omega)]; rfl
  · rw [if_neg h1]
    by_cases h2 : id > 65535
    · rw [if_pos h2, decide_eq_false (show ¬ (0 ≤ id ∧ id ≤ 65535) by omega)]; rfl
    · rw [if_neg h2, decide_eq_true (show 0 ≤ id ∧ id ≤ 65535 by omega)]
      by_cases h3 : pr < 0
      · rw [if_pos h3, decide_eq_false (show ¬ (0 ≤ pr ∧ pr ≤ 255) by omega)]; rfl
      · rw [if_neg h3]
        by_cases h4 : pr > 255
        · rw [if_pos h4, decide_eq_false (show ¬ (0 ≤ pr ∧ pr ≤ 255) by omega)]; rfl
        · rw [if_neg h4, decide_eq_true (show 0 ≤ pr ∧ pr ≤ 255 by omega)]
          cases valOK arg with
          | false => simp
          | true =>
            rw [if_pos rfl]
            by_cases h5 : sp < 0
            · rw [if_pos h5, decide_eq_false (show ¬ (0 ≤ sp ∧ sp ≤ 24) by omega)]; rfl
            · rw [if_neg h5]
              by_cases h6 : sp > 24
              · rw [if_pos h6, decide_eq_false (show ¬ (0 ≤ sp ∧ sp ≤ 24) by omega)]; rfl
              · rw [if_neg h6, decide_eq_true (show 0 ≤ sp ∧ sp ≤ 24 by omega)]; rfl
/-! ## results -/
abbrev T15 := Int × Int × Int × Int × ByteArray × Int × Int × Int × Int × Int × ByteArray × Int × List Vl × Bool × Int
def mkT (id pr : Int) (arg : Vl) (st sp ti : Int) (v : Vl) (pc : Int) (rg : List Vl) (ca : Bool) (e : Int) : T15 := (id, pr, arg.f0, arg.f1, arg.f2, st, sp, ti, v.f0, v.f1, v.f2, pc, rg, ca, e)
def errT (e : Int) : T15 := (0, 0, 0, 0, (⟨#[]⟩ : ByteArray), 0, 0, 0, 0, 0, (⟨#[]⟩ : ByteArray), 0, ([] : List Vl), false, e)
def endT (id pr : Int) (arg : Vl) (st sp ti : Int) (v : Vl) (pc : Int) (rg : List Vl) (ca : Bool) : T15 := if rightF id pr arg st sp ti v pc rg ca = true then mkT id pr arg st sp ti v pc rg ca 0 else errT 4
def firstL (arg : Vl) : List Vl := [arg, ⟨1, 0, ⟨#[]⟩⟩, ⟨1, 0, ⟨#[]⟩⟩, ⟨1, 0, ⟨#[]⟩⟩, ⟨1, 0, ⟨#[]⟩⟩, ⟨1, 0, ⟨#[]⟩⟩]
theorem first_sz (arg : Vl) (h : arg.f2.size ≤ SZ) : ∀ u ∈ firstL arg, u.f2.size ≤ SZ := by
  intro u hu
  unfold firstL at hu
  simp only [List.mem_cons, List.not_mem_nil, or_false] at hu
  rcases hu with rfl | rfl | rfl | rfl | rfl | rfl
  · exact h
  all_goals exact Nat.zero_le _
theorem p_first (arg : Vl) : machine_First.f arg.f0 arg.f1 arg.f2 = some (0, firstL arg) := rfl
theorem p_begin (id pr : Int) (arg : Vl) (ha : arg.f2.size ≤ SZ) {k : Nat} (hk : 18 ≤ k) : flows_Begin.f k id pr arg.f0 arg.f1 arg.f2 = some (endT id pr arg 1 0 0 ⟨0, 0, ⟨#[]⟩⟩ 0 (firstL arg) false) := by
  unfold flows_Begin.f endT
  rw [p_first, Option.bind_some]
  have := p_right id pr arg 1 0 0 ⟨0, 0, ⟨#[]⟩⟩ 0 (firstL arg) false ha (Nat.zero_le _) (first_sz arg ha) hk
  simp only at this ⊢
  rw [this, Option.bind_some]
  split <;> rfl
theorem live21 {k : Nat} (hk : 64 ≤ k) : factotumlaw21_lives.f k = some true := by
  have h : factotumlaw21_lives.f 64 = some true := by kernel_rfl
  obtain ⟨j, rfl⟩ : ∃ j, k = j + 64 := ⟨k - 64, by omega⟩
  induction j with
  | zero => exact h
  | succ j ih => rw [show j + 1 + 64 = (j + 64) + 1 by omega]; exact factotumlaw21_lives.mono _ _ (ih (by omega))
/-! ## the same workflows -/
def eqV (u v : Vl) : Bool := u.f0 == v.f0 && (u.f1 == v.f1 && (u.f2.toList == v.f2.toList))
def neV (u v : Vl) : Bool := !(u.f0 == v.f0) || (!(u.f1 == v.f1) || (!(u.f2.toList == v.f2.toList)))
theorem neV_eq (u v : Vl) : neV u v = !eqV u v := by unfold neV eqV; simp [Bool.not_and]
theorem eqV_refl (u : Vl) : eqV u u = true := by unfold eqV; simp
def eqL : List Vl → List Vl → Bool
  | [], [] => true
  | a :: x, b :: y => eqV a b && eqL x y
  | _, _ => false
theorem eqL_refl : ∀ l, eqL l l = true := by
  intro l
  induction l with
  | nil => rfl
  | cons a l ih => simp [eqL, eqV_refl, ih]
theorem same_go (a b : List Vl) (hl : a.length = b.length) (hb : a.length ≤ 1000000000) : ∀ m i k : Nat, i + m = a.length → factotumref02_Same.l0 (k + m + 1) a b (i : Int) = some (eqL (a.drop i) (b.drop i)) := by
  intro m
  induction m with
  | zero =>
    intro i k hi
    simp only [factotumref02_Same.l0]
    rw [if_neg (by omega), List.drop_eq_nil_of_le (by omega), List.drop_eq_nil_of_le (by omega)]; rfl
  | succ m ih =>
    intro i k hi
    have hlt : i < a.length := by omega
    have hlt2 : i < b.length := by omega
    rw [show k + (m + 1) + 1 = (k + m + 1) + 1 by omega]
    generalize hK : k + m + 1 = K
    simp only [factotumref02_Same.l0]
    subst hK
    rw [if_pos (by omega), if_pos (by omega), if_pos (by omega), rdv a i hlt, rdv b i hlt2, nexti i (by omega), ih (i + 1) k (by omega), List.drop_eq_getElem_cons hlt, List.drop_eq_getElem_cons hlt2]
    show (if neV a[i] b[i] = true then some false else _) = some (eqV a[i] b[i] && eqL (a.drop (i + 1)) (b.drop (i + 1)))
    rw [neV_eq]
    cases eqV a[i] b[i] <;> rfl
theorem eqL_len : ∀ a b : List Vl, a.length ≠ b.length → eqL a b = false := by
  intro a
  induction a with
  | nil => intro b h; cases b with
    | nil => exact absurd rfl h
    | cons y b => rfl
  | cons x a ih =>
    intro b h
    cases b with
    | nil => rfl
    | cons y b => show (eqV x y && eqL a b) = false; rw [ih b (by simpa using h), Bool.and_false]
theorem r_sameL (a b : List Vl) (hb : a.length ≤ 1000000000) {k : Nat} (hk : a.length + 1 ≤ k) : factotumref02_Same.f k a b = some (eqL a b) := by
  unfold factotumref02_Same.f
  by_cases h : a.length = b.length
  · rw [if_pos (by omega)]
    have := same_go a b h hb a.length 0 (k - a.length - 1) (by omega)
    rw [show k - a.length - 1 + a.length + 1 = k by omega] at this
    exact this
  · rw [if_neg (by omega), eqL_len a b h]
theorem r_same_refl (id pr a0 a1 : Int) (a2 : ByteArray) (st sp ti v0 v1 : Int) (v2 : ByteArray) (pc : Int) (rg : List Vl) (ca : Bool) (hb : rg.length ≤ 1000000000) {k : Nat} (hk : rg.length + 1 ≤ k) :
    factotumref21_Same.f k id pr a0 a1 a2 st sp ti v0 v1 v2 pc rg ca id pr a0 a1 a2 st sp ti v0 v1 v2 pc rg ca = some true := by
  unfold factotumref21_Same.f factotumref16_SameFrame.f
  rw [if_pos rfl, if_pos rfl, if_pos (by simp), if_pos rfl, if_pos rfl, if_pos rfl, if_pos (by simp), if_pos (by simp), if_pos rfl, r_sameL rg rg hb hk, eqL_refl]; rfl
theorem r_same_tup {α : Type} (t : Int × Int × Int × Int × ByteArray × Int × Int × Int × Int × Int × ByteArray × Int × List Vl × Bool × α) (hb : t.2.2.2.2.2.2.2.2.2.2.2.2.1.length ≤ 1000000000) {k : Nat} (hk : t.2.2.2.2.2.2.2.2.2.2.2.2.1.length + 1 ≤ k) :
    factotumref21_Same.f k t.1 t.2.1 t.2.2.1 t.2.2.2.1 t.2.2.2.2.1 t.2.2.2.2.2.1 t.2.2.2.2.2.2.1 t.2.2.2.2.2.2.2.1 t.2.2.2.2.2.2.2.2.1 t.2.2.2.2.2.2.2.2.2.1 t.2.2.2.2.2.2.2.2.2.2.1 t.2.2.2.2.2.2.2.2.2.2.2.1 t.2.2.2.2.2.2.2.2.2.2.2.2.1 t.2.2.2.2.2.2.2.2.2.2.2.2.2.1 t.1 t.2.1 t.2.2.1 t.2.2.2.1 t.2.2.2.2.1 t.2.2.2.2.2.1 t.2.2.2.2.2.2.1 t.2.2.2.2.2.2.2.1 t.2.2.2.2.2.2.2.2.1 t.2.2.2.2.2.2.2.2.2.1 t.2.2.2.2.2.2.2.2.2.2.1 t.2.2.2.2.2.2.2.2.2.2.2.1 t.2.2.2.2.2.2.2.2.2.2.2.2.1 t.2.2.2.2.2.2.2.2.2.2.2.2.2.1 = some true :=
  r_same_refl _ _ _ _ _ _ _ _ _ _ _ _ _ _ hb hk
theorem endT_len (id pr : Int) (arg : Vl) (st sp ti : Int) (v : Vl) (pc : Int) (rg : List Vl) (ca : Bool) : (endT id pr arg st sp ti v pc rg ca).2.2.2.2.2.2.2.2.2.2.2.2.1.length ≤ rg.length := by
  unfold endT; split
  · exact Nat.le_refl _
  · exact Nat.zero_le _
/-- what came in: bounds -/
theorem sz_of (l : List Vl) (h : (l.map XA.wt24).sum ≤ 1048576) : (∀ u ∈ l, u.f2.size ≤ SZ) ∧ l.length ≤ 1048576 := by
  induction l with
  | nil => exact ⟨fun u hu => (by cases hu), Nat.zero_le _⟩
  | cons u l ih =>
    have e : XA.wt24 u = 1 + 1 + (u.f2.size + 1) + 1 := rfl
    rw [List.map_cons, List.sum_cons, e] at h
    obtain ⟨h1, h2⟩ := ih (by omega)
    refine ⟨fun w hw => ?_, ?_⟩
    · rcases List.mem_cons.1 hw with rfl | hw
      · unfold SZ; omega
      · exact h1 w hw
    · have : l.length ≤ (l.map XA.wt24).sum := by
        clear h h1 h2 ih
        induction l with
        | nil => exact Nat.le_refl _
        | cons w l ih =>
          have e : XA.wt24 w = 1 + 1 + (w.f2.size + 1) + 1 := rfl
          rw [List.map_cons, List.sum_cons, List.length_cons, e]; omega
      rw [List.length_cons]; omega
end Go.Proofs.YtobjnhkjahhfnaaDoor.XF
