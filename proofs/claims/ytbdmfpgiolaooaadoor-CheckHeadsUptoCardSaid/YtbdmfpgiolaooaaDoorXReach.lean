/- What can be come to in a program: rounds that mark, and a stack of what waits: both mark the least closed set. Plain lemmas on lists of Bools, no program in sight. No conditions. -/
import Derived.Test.YtbdmfpgiolaooaaDoorProg
namespace Go.Proofs.YtbdmfpgiolaooaaDoor.XG
set_option linter.unusedSimpArgs false
/-- is i marked? -/
def at_ (o : List Bool) (i : Nat) : Bool := o.getD i false
theorem at_set (o : List Bool) (i j : Nat) (b : Bool) : at_ (o.set i b) j = if i = j ∧ j < o.length then b else at_ o j := by
  unfold at_
  rw [List.getD_eq_getElem?_getD, List.getD_eq_getElem?_getD, List.getElem?_set]
  by_cases h : i = j
  · subst h
    by_cases h2 : i < o.length
    · simp [h2]
    · simp [h2, List.getElem?_eq_none (Nat.le_of_not_lt h2)]
  · simp [h]
theorem at_lt {o : List Bool} {i : Nat} (h : at_ o i = true) : i < o.length := by
  unfold at_ at h
  by_cases h2 : i < o.length
  · exact h2
  · rw [List.getD_eq_getElem?_getD, List.getElem?_eq_none (Nat.le_of_not_lt h2)] at h; cases h
theorem at_get {o : List Bool} {i : Nat} (h : i < o.length) : at_ o i = o[i] := by unfold at_; rw [List.getD_eq_getElem?_getD, List.getElem?_eq_getElem h]; rfl
/-- more is marked -/
def le (o p : List Bool) : Prop := o.length = p.length ∧ ∀ i, at_ o i = true → at_ p i = true
theorem le_refl (o : List Bool) : le o o := ⟨rfl, fun _ h => h⟩
theorem le_trans {o p q : List Bool} (h : le o p) (k : le p q) : le o q := ⟨h.1.trans k.1, fun i hi => k.2 i (h.2 i hi)⟩
theorem le_set (o : List Bool) (t : Nat) : le o (o.set t true) := ⟨by simp, fun i hi => by rw [at_set]; split <;> first | rfl | exact hi⟩
theorem count_le : ∀ o p : List Bool, le o p → o.count true ≤ p.count true ∧ (o.count true = p.count true → o = p) := by
  intro o
  induction o with
  | nil => intro p h; cases p with
    | nil => exact ⟨Nat.le_refl _, fun _ => rfl⟩
    | cons x p => exact absurd h.1 (by simp)
  | cons a o ih =>
    intro p h
    cases p with
    | nil => exact absurd h.1 (by simp)
    | cons b p =>
      have h' : le o p := ⟨by simpa using h.1, fun i hi => h.2 (i + 1) hi⟩
      obtain ⟨h1, h2⟩ := ih p h'
      have h0 : a = true → b = true := fun e => h.2 0 e
      rw [List.count_cons, List.count_cons]
      cases a with
      | true =>
        rw [h0 rfl]
        exact ⟨by simp; exact h1, fun e => by rw [h2 (by simpa using e)]⟩
      | false =>
        cases b with
        | true => exact ⟨by simp; omega, fun e => by exfalso; simp at e; omega⟩
        | false => exact ⟨by simpa using h1, fun e => by rw [h2 (by simpa using e)]⟩
theorem le_antisymm {o p : List Bool} (h : le o p) (k : le p o) : o = p := (count_le o p h).2 (Nat.le_antisymm (count_le o p h).1 (count_le p o k).1)
section
variable (T : Nat → Option Nat) (N : Nat → Bool)
/-- one instruction's goals are marked, if it is -/
def mark (o : List Bool) (i : Nat) : List Bool :=
  if at_ o i = true then (if N i = true then ((match T i with | some t => o.set t true | none => o).set (i + 1) true) else (match T i with | some t => o.set t true | none => o)) else o
def sweep (o : List Bool) (i : Nat) : Nat → List Bool
  | 0 => o
  | m + 1 => sweep (mark T N o i) (i + 1) m
def rounds (n : Nat) (o : List Bool) : Nat → List Bool
  | 0 => o
  | r + 1 => rounds n (sweep T N o 0 n) r
/-- a set that holds the goals of what it holds -/
def Shut (n : Nat) (C : Nat → Prop) : Prop := ∀ i, i < n → C i → (∀ t, T i = some t → C t) ∧ (N i = true → C (i + 1))
theorem mark_le (o : List Bool) (i : Nat) : le o (mark T N o i) := by
  unfold mark
  split
  · split
    · split
      · exact le_trans (le_set _ _) (le_set _ _)
      · exact le_set _ _
    · split
      · exact le_set _ _
      · exact le_refl _
  · exact le_refl _
theorem sweep_le (o : List Bool) (i m : Nat) : le o (sweep T N o i m) := by
  induction m generalizing o i with
  | zero => exact le_refl _
  | succ m ih => exact le_trans (mark_le T N o i) (ih _ _)
theorem rounds_le (n : Nat) (o : List Bool) (r : Nat) : le o (rounds T N n o r) := by
  induction r generalizing o with
  | zero => exact le_refl _
  | succ r ih => exact le_trans (sweep_le T N o 0 n) (ih _)
theorem sweep_same (o : List Bool) (i m : Nat) (h : sweep T N o i m = o) : ∀ j, i ≤ j → j < i + m → mark T N o j = o := by
  induction m generalizing i with
  | zero => intro j h1 h2; omega
  | succ m ih =>
    intro j h1 h2
    have e : mark T N o i = o := by
      have h3 := sweep_le T N (mark T N o i) (i + 1) m
      rw [show sweep T N (mark T N o i) (i + 1) m = o from h] at h3
      exact le_antisymm h3 (mark_le T N o i)
    by_cases hj : j = i
    · rw [hj]; exact e
    · have h' : sweep T N o (i + 1) m = o := by
        have : sweep T N (mark T N o i) (i + 1) m = o := h
        rwa [e] at this
      exact ih (i + 1) h' j (by omega) (by omega)
theorem mark_same (o : List Bool) (i : Nat) (h : mark T N o i = o) (hT : ∀ t, T i = some t → t < o.length) (hN : N i = true → i + 1 < o.length) (hi : at_ o i = true) : (∀ t, T i = some t → at_ o t = true) ∧ (N i = true → at_ o (i + 1) = true) := by
  refine ⟨fun t ht => ?_, fun hn => ?_⟩
  · rw [← h]
    unfold mark
    rw [if_pos hi, ht]
    have := hT t ht
    split
    · exact (le_set _ _).2 t (by rw [at_set, if_pos ⟨rfl, this⟩])
    · rw [at_set, if_pos ⟨rfl, this⟩]
  · rw [← h]
    unfold mark
    rw [if_pos hi, if_pos hn]
    have hl : (match T i with | some t => o.set t true | none => o).length = o.length := by split <;> simp
    rw [at_set, if_pos ⟨rfl, by rw [hl]; exact hN hn⟩]
/-- enough rounds: all that follows is marked -/
theorem rounds_shut (n : Nat) (hT : ∀ i t, i < n → T i = some t → t < n) (hN : ∀ i, i < n → N i = true → i + 1 < n) :
    ∀ (r : Nat) (o : List Bool), o.length = n → n < o.count true + r → Shut T N n (fun i => at_ (rounds T N n o r) i = true) := by
  intro r
  induction r with
  | zero => intro o h1 h2; have := List.count_le_length (l := o) (a := true); omega
  | succ r ih =>
    intro o h1 h2
    by_cases h : sweep T N o 0 n = o
    · have hr : ∀ r, rounds T N n o r = o := by
        intro r
        induction r with
        | zero => rfl
        | succ r ih' => show rounds T N n (sweep T N o 0 n) r = o; rw [h]; exact ih'
      rw [hr]
      intro i hi hm
      exact mark_same T N o i (sweep_same T N o 0 n h i (Nat.zero_le _) (by omega)) (fun t ht => by rw [h1]; exact hT i t hi ht) (fun hn => by rw [h1]; exact hN i hi hn) hm
    · have hle := sweep_le T N o 0 n
      obtain ⟨c1, c2⟩ := count_le _ _ hle
      have : o.count true ≠ (sweep T N o 0 n).count true := fun e => h (c2 e).symm
      exact ih (sweep T N o 0 n) (by rw [← hle.1]; exact h1) (by omega)
theorem mark_in {n : Nat} {C : Nat → Prop} (hC : Shut T N n C) {o : List Bool} (hl : o.length = n) (h : ∀ i, at_ o i = true → C i) (i : Nat) : ∀ j, at_ (mark T N o i) j = true → C j := by
  intro j hj
  unfold mark at hj
  by_cases hi : at_ o i = true
  · rw [if_pos hi] at hj
    have hin : i < n := by rw [← hl]; exact at_lt hi
    obtain ⟨c1, c2⟩ := hC i hin (h i hi)
    have base : ∀ j, at_ (match T i with | some t => o.set t true | none => o) j = true → C j := by
      intro j hj
      cases ht : T i with
      | none => rw [ht] at hj; exact h j hj
      | some t =>
        rw [ht] at hj
        simp only at hj
        rw [at_set] at hj
        split at hj
        · rename_i e; rw [← e.1]; exact c1 t ht
        · exact h j hj
    by_cases hn : N i = true
    · rw [if_pos hn, at_set] at hj
      by_cases e : i + 1 = j ∧ j < (match T i with | some t => o.set t true | none => o).length
      · rw [← e.1]; exact c2 hn
      · rw [if_neg e] at hj; exact base j hj
    · rw [if_neg hn] at hj
      exact base j hj
  · rw [if_neg hi] at hj; exact h j hj
theorem sweep_in {n : Nat} {C : Nat → Prop} (hC : Shut T N n C) (i m : Nat) : ∀ {o : List Bool}, o.length = n → (∀ j, at_ o j = true → C j) → ∀ j, at_ (sweep T N o i m) j = true → C j := by
  induction m generalizing i with
  | zero => intro o _ h; exact h
  | succ m ih => intro o hl h; exact ih (i + 1) (by rw [← (mark_le T N o i).1]; exact hl) (mark_in T N hC hl h i)
theorem rounds_in {n : Nat} {C : Nat → Prop} (hC : Shut T N n C) (r : Nat) : ∀ {o : List Bool}, o.length = n → (∀ j, at_ o j = true → C j) → ∀ j, at_ (rounds T N n o r) j = true → C j := by
  induction r with
  | zero => intro o _ h; exact h
  | succ r ih => intro o hl h; exact ih (by rw [← (sweep_le T N o 0 n).1]; exact hl) (sweep_in T N hC 0 n hl h)
/-- what waits behind an instruction -/
def next (i : Nat) : List Nat := (match T i with | some t => [t] | none => []) ++ (if N i = true then [i + 1] else [])
theorem mem_next (i j : Nat) : j ∈ next T N i ↔ T i = some j ∨ (N i = true ∧ j = i + 1) := by
  unfold next
  cases hT : T i <;> by_cases hN : N i = true <;> simp [hN, eq_comm]
/-- what holds of marks and of what waits (the stack's list, its end last) -/
structure Inv (n : Nat) (o : List Bool) (wt : List Nat) : Prop where
  len : o.length = n
  inn : ∀ k ∈ wt, k < n
  go : ∀ i, at_ o i = true → ∀ t ∈ next T N i, at_ o t = true ∨ t ∈ wt
  zero : at_ o 0 = true ∨ 0 ∈ wt
  low : ∀ C : Nat → Prop, Shut T N n C → C 0 → (∀ i, at_ o i = true → C i) ∧ ∀ k ∈ wt, C k
theorem Inv.start (n : Nat) (hn : 0 < n) : Inv T N n (List.replicate n false) [0] := by
  have h : ∀ i, at_ (List.replicate n false) i = false := fun i => by unfold at_; rw [List.getD_eq_getElem?_getD, List.getElem?_replicate]; split <;> rfl
  exact ⟨by simp, fun k hk => by simp at hk; omega, fun i hi => (by rw [h] at hi; cases hi), .inr (by simp), fun C _ h0 => ⟨fun i hi => (by rw [h] at hi; cases hi), fun k hk => by simp at hk; rw [hk]; exact h0⟩⟩
theorem Inv.skip {n : Nat} {o : List Bool} {wt : List Nat} {k : Nat} (h : Inv T N n o (wt ++ [k])) (hk : at_ o k = true) : Inv T N n o wt := by
  refine ⟨h.len, fun j hj => h.inn j (by simp [hj]), fun i hi t ht => ?_, ?_, fun C hC h0 => ⟨(h.low C hC h0).1, fun j hj => (h.low C hC h0).2 j (by simp [hj])⟩⟩
  · rcases h.go i hi t ht with h1 | h1
    · exact .inl h1
    · simp at h1
      rcases h1 with h1 | rfl
      · exact .inr h1
      · exact .inl hk
  · rcases h.zero with h1 | h1
    · exact .inl h1
    · simp at h1
      rcases h1 with h1 | rfl
      · exact .inr h1
      · exact .inl hk
theorem Inv.take {n : Nat} {o : List Bool} {wt : List Nat} {k : Nat} (h : Inv T N n o (wt ++ [k])) (hT : ∀ t, T k = some t → t < n) (hN : N k = true → k + 1 < n) : Inv T N n (o.set k true) (wt ++ next T N k) := by
  have hkn : k < n := h.inn k (by simp)
  have hk : at_ (o.set k true) k = true := by rw [at_set, if_pos ⟨rfl, by rw [h.len]; exact hkn⟩]
  have up := (le_set o k).2
  refine ⟨by simp [h.len], fun j hj => ?_, fun i hi t ht => ?_, ?_, fun C hC h0 => ?_⟩
  · rcases List.mem_append.1 hj with hj | hj
    · exact h.inn j (by simp [hj])
    · rcases (mem_next T N k j).1 hj with h1 | ⟨h1, rfl⟩
      · exact hT j h1
      · exact hN h1
  · rw [at_set] at hi
    by_cases e : k = i
    · subst e; exact .inr (List.mem_append_right _ ht)
    · rw [if_neg (fun x => e x.1)] at hi
      rcases h.go i hi t ht with h1 | h1
      · exact .inl (up t h1)
      · simp at h1
        rcases h1 with h1 | rfl
        · exact .inr (List.mem_append_left _ h1)
        · exact .inl hk
  · rcases h.zero with h1 | h1
    · exact .inl (up 0 h1)
    · simp at h1
      rcases h1 with h1 | h1
      · exact .inr (List.mem_append_left _ h1)
      · left; rw [h1]; exact hk
  · obtain ⟨l1, l2⟩ := h.low C hC h0
    have ck : C k := l2 k (by simp)
    refine ⟨fun i hi => ?_, fun j hj => ?_⟩
    · rw [at_set] at hi
      by_cases e : k = i
      · rw [← e]; exact ck
      · rw [if_neg (fun x => e x.1)] at hi; exact l1 i hi
    · rcases List.mem_append.1 hj with hj | hj
      · exact l2 j (by simp [hj])
      · rcases (mem_next T N k j).1 hj with h1 | ⟨h1, rfl⟩
        · exact (hC k hkn ck).1 j h1
        · exact (hC k hkn ck).2 h1
theorem Inv.shut {n : Nat} {o : List Bool} (h : Inv T N n o []) : Shut T N n (fun i => at_ o i = true) := fun i _ hi => by
  have g := h.go i hi
  refine ⟨fun t ht => ?_, fun hn => ?_⟩
  · rcases g t ((mem_next T N i t).2 (.inl ht)) with h1 | h1
    · exact h1
    · cases h1
  · rcases g (i + 1) ((mem_next T N i (i + 1)).2 (.inr ⟨hn, rfl⟩)) with h1 | h1
    · exact h1
    · cases h1
/-- both mark the same -/
theorem same {n : Nat} {o : List Bool} (hn : 0 < n) (hT : ∀ i t, i < n → T i = some t → t < n) (hN : ∀ i, i < n → N i = true → i + 1 < n) (h : Inv T N n o []) : rounds T N n ((List.replicate n false).set 0 true) n = o := by
  have hz : ∀ i, at_ ((List.replicate n false).set 0 true) i = true ↔ i = 0 := by
    intro i
    rw [at_set]
    have e : at_ (List.replicate n false) i = false := by unfold at_; rw [List.getD_eq_getElem?_getD, List.getElem?_replicate]; split <;> rfl
    rw [e]
    by_cases hi : 0 = i
    · rw [if_pos ⟨hi, by simp; omega⟩]; simp [hi]
    · rw [if_neg (fun x => hi x.1)]; simp; omega
  have hl : ((List.replicate n false).set 0 true).length = n := by simp
  have hc : ((List.replicate n false).set 0 true).count true = 1 := by
    obtain ⟨m, rfl⟩ : ∃ m, n = m + 1 := ⟨n - 1, by omega⟩
    rw [List.replicate_succ, List.set_cons_zero, List.count_cons]; simp [List.count_replicate]
  have hs := rounds_shut T N n hT hN n _ hl (by omega)
  refine le_antisymm ⟨by rw [← (rounds_le T N n _ n).1, hl, h.len], ?_⟩ ⟨by rw [← (rounds_le T N n _ n).1, hl, h.len], ?_⟩
  · refine rounds_in T N (C := fun i => at_ o i = true) (h.shut T N) n hl ?_
    intro j hj
    rw [(hz j).1 hj]
    rcases h.zero with h1 | h1
    · exact h1
    · cases h1
  · exact (h.low _ hs ((rounds_le T N n _ n).2 0 ((hz 0).2 rfl))).1
end
end Go.Proofs.YtbdmfpgiolaooaaDoor.XG
