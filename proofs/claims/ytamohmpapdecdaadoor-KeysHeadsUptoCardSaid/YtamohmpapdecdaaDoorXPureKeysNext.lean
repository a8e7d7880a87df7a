/- The plain law of KeysNext: the first text behind all that begin so. Condition: the bulk's bound. -/
import Derived.Test.YtamohmpapdecdaaDoorXCmp
namespace Go.Proofs.YtamohmpapdecdaaDoor.XK
open Go.RowKit Go.Proofs.YtamohmpapdecdaaDoor.XW Go.Proofs.YtamohmpapdecdaaDoor.XLib Go.Proofs.YtamohmpapdecdaaDoor.PAll Go.Proofs.YtamohmpapdecdaaDoor.XO Go.Proofs.YtamohmpapdecdaaDoorW.PrintWords Go.Proofs.YtamohmpapdecdaaDoorW.PrintLast
/-- the first text behind all that begin so: over the bytes turned round -/
def nextR : List UInt8 → List UInt8 × Bool
  | [] => ([], false)
  | c :: r => if c = 255 then nextR r else (r.reverse ++ [c + 1], true)
def nextL (l : List UInt8) : List UInt8 × Bool := nextR l.reverse
theorem nextL_snoc (p : List UInt8) (c : UInt8) : nextL (p ++ [c]) = if c = 255 then nextL p else (p ++ [c + 1], true) := by
  unfold nextL; rw [List.reverse_append, List.reverse_singleton, List.singleton_append, nextR, List.reverse_reverse]
theorem snoc_of (l : ByteArray) (h : 0 < l.size) : ∃ (p : List UInt8) (c : UInt8), l.data.toList = p ++ [c] ∧ p.length = l.size - 1 := by
  have hl : l.data.toList ≠ [] := by
    intro h2; rw [Lib.size_eq, h2] at h; simp at h
  refine ⟨l.data.toList.dropLast, l.data.toList.getLast hl, (List.dropLast_concat_getLast hl).symm, ?_⟩
  rw [List.length_dropLast, ← Lib.size_eq]
theorem suffix255 (l : ByteArray) (h : l.size ≤ 140737488355328) (p : List UInt8) (c : UInt8) (hp : l.data.toList = p ++ [c]) (hl : p.length = l.size - 1) (h0 : 0 < l.size) : strings_HasSuffix.f l ⟨#[255]⟩ = some (c == 255) := by
  have e1 : (⟨#[255]⟩ : ByteArray).size = 1 := rfl
  unfold strings_HasSuffix.f stringslite_HasSuffix.f
  rw [e1, if_pos (by omega), IntWalk.wrap64_in _ ⟨by omega, by omega⟩, if_pos (by omega), if_pos (by omega), Option.bind_some]
  rw [Lib.toList_data, Lib.toList_data, Lib.extract_to_end, hp, show ((l.size : Int) - ((1 : Nat) : Int)).toNat = p.length by omega, List.drop_left]
  simp
theorem suffix_empty (l : ByteArray) (h : l.size = 0) : strings_HasSuffix.f l ⟨#[255]⟩ = some false := by
  have e1 : (⟨#[255]⟩ : ByteArray).size = 1 := rfl
  unfold strings_HasSuffix.f stringslite_HasSuffix.f
  rw [e1, if_neg (by omega)]; rfl
theorem inc_str (c : UInt8) : strOfNums [((c.toNat : Int) + 1) % 256] = ⟨#[c + 1]⟩ := by
  apply ba_ext
  show [UInt8.ofNat (((c.toNat : Int) + 1) % 256).toNat] = [c + 1]
  congr 1
  apply UInt8.toNat_inj.1
  have := c.toNat_lt
  rw [UInt8.toNat_ofNat', UInt8.toNat_add]
  simp; omega
theorem rnext_go (s : ByteArray) (hs : s.size ≤ 140737488355328) : ∀ (n k : Nat), n ≤ s.size → n < k →
    factotumref02_Next.l0 k s ((n : Int) - 1) = some (⟨(nextL (s.data.toList.take n)).1.toArray⟩, (nextL (s.data.toList.take n)).2) := by
  intro n
  induction n with
  | zero =>
    intro k _ hk
    obtain ⟨k, rfl⟩ : ∃ j, k = j + 1 := ⟨k - 1, by omega⟩
    simp only [factotumref02_Next.l0]
    rw [if_neg (by omega)]; rfl
  | succ n ih =>
    intro k hn hk
    obtain ⟨k, rfl⟩ : ∃ j, k = j + 1 := ⟨k - 1, by omega⟩
    have h1 : n < s.data.toList.length := by rw [← Lib.size_eq]; omega
    obtain ⟨_, hc, _⟩ := bt_nat s n _ _ (List.drop_eq_getElem_cons h1)
    rw [show ((n + 1 : Nat) : Int) - 1 = (n : Int) by omega]
    simp only [factotumref02_Next.l0]
    rw [if_pos (by omega), if_pos (by omega), if_pos (by omega), hc, List.take_succ_eq_append_getElem h1, nextL_snoc]
    obtain ⟨c, hcc⟩ : ∃ c, s.data.toList[n] = c := ⟨_, rfl⟩
    rw [hcc]
    by_cases h : c = 255
    · rw [if_pos (show (c.toNat : Int) = 255 from (u8_eq c 255 (by omega)).2 h), if_pos h, IntWalk.wrap64_in _ ⟨by omega, by omega⟩]
      exact ih k (by omega) (by omega)
    · rw [if_neg (show ¬ (c.toNat : Int) = 255 from fun h2 => h ((u8_eq c 255 (by omega)).1 h2)), if_neg h, if_pos (by omega), Option.bind_some, Int.toNat_natCast]
      have e := inc_str c
      have hz : (s.extract 0 n).size = n := by rw [ByteArray.size_extract]; omega
      rw [e, if_pos (by rw [hz]; show n + 1 ≤ _; omega)]
      refine congrArg (fun z => some (z, true)) (ba_ext ?_)
      rw [ba_app, Lib.extract_data]; rfl
theorem rnext (s : ByteArray) (hs : s.size ≤ 140737488355328) (k : Nat) (hk : s.size < k) : factotumref02_Next.f k s = some (⟨(nextL s.data.toList).1.toArray⟩, (nextL s.data.toList).2) := by
  unfold factotumref02_Next.f
  rw [IntWalk.wrap64_in _ ⟨by omega, by omega⟩, rnext_go s hs s.size k (Nat.le_refl _) hk, List.take_of_length_le (by rw [← Lib.size_eq]; exact Nat.le_refl _)]
theorem knext_go : ∀ (k : Nat) (s : ByteArray), s.size ≤ 140737488355328 → s.size < k → keys_Next.l0 k s = some (⟨(nextL s.data.toList).1.toArray⟩, (nextL s.data.toList).2) := by
  intro k
  induction k with
  | zero => intro s _ h; omega
  | succ k ih =>
    intro s hs hk
    simp only [keys_Next.l0]
    by_cases h0 : s.size = 0
    · have he : s.data.toList = [] := List.eq_nil_of_length_eq_zero (by rw [← Lib.size_eq]; exact h0)
      rw [suffix_empty s h0, Option.bind_some, if_neg (by decide), if_pos (by rw [Lib.toList_data, he]), he]; rfl
    · obtain ⟨p, c, hp, hpl⟩ := snoc_of s (by omega)
      have hne : s.toList ≠ [] := by rw [Lib.toList_data, hp]; simp
      have hw : wrap64 ((s.size : Int) - 1) = ((s.size - 1 : Nat) : Int) := (IntWalk.wrap64_in _ ⟨by omega, by omega⟩).trans (by omega)
      have hx : (s.extract 0 (s.size - 1)).data.toList = p := by rw [Lib.extract_data, hp]; simp [hpl]
      have hz : (s.extract 0 (s.size - 1)).size = s.size - 1 := by rw [ByteArray.size_extract]; omega
      rw [suffix255 s hs p c hp hpl (by omega), Option.bind_some, hw]
      simp only [Int.toNat_natCast]
      by_cases hc : c = 255
      · rw [if_pos (by rw [hc]; rfl), if_pos (by omega), if_pos (by omega), ih _ (by omega) (by omega), hx, hp, nextL_snoc, if_pos hc]
      · obtain ⟨_, hb, _⟩ := bt_nat s (s.size - 1) c [] (by rw [hp, ← hpl, List.drop_left])
        rw [if_neg (by simp [hc]), if_neg hne, if_pos (by omega), if_pos (by omega), if_pos (by omega), hb, Option.bind_some, inc_str c, if_pos (by rw [hz]; show s.size - 1 + 1 ≤ _; omega), hp, nextL_snoc, if_neg hc]
        refine congrArg (fun z => some (z, true)) (ba_ext ?_)
        rw [ba_app, hx]
theorem knext (s : ByteArray) (hs : s.size ≤ 140737488355328) (k : Nat) (hk : s.size < k) : keys_Next.f k s = some (⟨(nextL s.data.toList).1.toArray⟩, (nextL s.data.toList).2) := knext_go k s hs hk
theorem nextR_snoc (d : UInt8) : ∀ u : List UInt8, nextR (u ++ [d]) = if (nextR u).2 = true then (d :: (nextR u).1, true) else if d = 255 then ([], false) else ([d + 1], true) := by
  intro u
  induction u with
  | nil => by_cases h : d = 255 <;> simp [nextR, h]
  | cons c u ih =>
    rw [List.cons_append, nextR, nextR, ih]
    by_cases h : c = 255
    · rw [if_pos h, if_pos h]
    · rw [if_neg h, if_neg h, if_pos rfl]; simp
theorem nextL_cons (d : UInt8) (a : List UInt8) : nextL (d :: a) = if (nextL a).2 = true then (d :: (nextL a).1, true) else if d = 255 then ([], false) else ([d + 1], true) := by
  unfold nextL; rw [List.reverse_cons, nextR_snoc]
/-- does a text begin so? -/
def headsB : List UInt8 → List UInt8 → Bool
  | [], _ => true
  | _ :: _, [] => false
  | d :: a, e :: t => d == e && headsB a t
theorem heads_take : ∀ a t : List UInt8, (if a.length ≤ t.length then (t.take a.length == a) else false) = headsB a t := by
  intro a
  induction a with
  | nil => intro t; simp [headsB]
  | cons d a ih =>
    intro t
    cases t with
    | nil => simp [headsB]
    | cons e t =>
      have := ih t
      simp only [headsB]
      rw [← this]
      simp only [List.length_cons, List.take_succ_cons]
      by_cases h : a.length ≤ t.length
      · rw [if_pos h, if_pos (by omega)]
        by_cases he : d = e
        · subst he; simp
        · have he2 : ¬ e = d := fun h => he h.symm
          simp [beq_eq_false_iff_ne.2 he, beq_eq_false_iff_ne.2 he2]
      · rw [if_neg h, if_neg (by omega)]; simp
def ltB (t a : List UInt8) : Bool := decide (cmpB t a = -1)
theorem ltB_cons (e d : UInt8) (t a : List UInt8) : ltB (e :: t) (d :: a) = if e.toNat < d.toNat then true else if d.toNat < e.toNat then false else ltB t a := by
  unfold ltB
  by_cases h1 : e.toNat < d.toNat
  · rw [if_pos h1, show cmpB (e :: t) (d :: a) = -1 from if_pos h1]; rfl
  · by_cases h2 : d.toNat < e.toNat
    · rw [if_neg h1, if_pos h2, show cmpB (e :: t) (d :: a) = 1 from (if_neg h1).trans (if_pos h2)]; rfl
    · rw [if_neg h1, if_neg h2, show cmpB (e :: t) (d :: a) = cmpB t a from (if_neg h1).trans (if_neg h2)]
theorem ltB_nil (t : List UInt8) : ltB t [] = false := by cases t <;> rfl
theorem ltB_nil_cons (d : UInt8) (a : List UInt8) : ltB [] (d :: a) = true := rfl
theorem next_law : ∀ a : List UInt8, ((nextL a).2 = true → ∀ t, headsB a t = (!ltB t a && ltB t (nextL a).1)) ∧ ((nextL a).2 = false → ∀ t, headsB a t = !ltB t a) := by
  intro a
  induction a with
  | nil => exact ⟨fun h => (by cases h), fun _ t => by rw [ltB_nil]; rfl⟩
  | cons d a ih =>
    rw [nextL_cons]
    have beq : ∀ e : UInt8, ¬ d.toNat = e.toNat → (d == e) = false := fun e h => beq_eq_false_iff_ne.2 (fun h2 => h (by rw [h2]))
    cases hn : (nextL a).2 with
    | true =>
      rw [if_pos rfl]
      refine ⟨fun _ t => ?_, fun h => (by cases h)⟩
      cases t with
      | nil => rw [ltB_nil_cons]; rfl
      | cons e t =>
        simp only [headsB]
        rw [ltB_cons, ltB_cons]
        by_cases h1 : e.toNat < d.toNat
        · rw [if_pos h1, beq e (by omega)]; rfl
        · by_cases h2 : d.toNat < e.toNat
          · rw [if_neg h1, if_pos h2, if_neg h1, if_pos h2, beq e (by omega)]; rfl
          · have : d = e := UInt8.toNat_inj.1 (by omega)
            rw [if_neg h1, if_neg h2, if_neg h1, if_neg h2, ← ih.1 hn t, this]; simp
    | false =>
      rw [if_neg (by decide)]
      have il := ih.2 hn
      by_cases h255 : d = 255
      · rw [if_pos h255]
        refine ⟨fun h => (by cases h), fun _ t => ?_⟩
        cases t with
        | nil => rw [ltB_nil_cons]; rfl
        | cons e t =>
          have hd : d.toNat = 255 := by rw [h255]; rfl
          have he := e.toNat_lt
          simp only [headsB]
          rw [ltB_cons]
          by_cases h1 : e.toNat < d.toNat
          · rw [if_pos h1, beq e (by omega)]; rfl
          · have h2 : ¬ d.toNat < e.toNat := by omega
            have : d = e := UInt8.toNat_inj.1 (by omega)
            rw [if_neg h1, if_neg h2, ← il t, this]; simp
      · rw [if_neg h255]
        refine ⟨fun _ t => ?_, fun h => (by cases h)⟩
        have hd : d.toNat < 255 := by
          have := d.toNat_lt
          rcases Nat.lt_or_ge d.toNat 255 with h | h
          · exact h
          · exact absurd (UInt8.toNat_inj.1 (show d.toNat = (255 : UInt8).toNat by show d.toNat = 255; omega)) h255
        have hd1 : (d + 1).toNat = d.toNat + 1 := by rw [UInt8.toNat_add]; show (d.toNat + 1) % 256 = _; omega
        cases t with
        | nil => rw [ltB_nil_cons]; rfl
        | cons e t =>
          simp only [headsB]
          rw [ltB_cons, ltB_cons, ltB_nil, hd1]
          by_cases h1 : e.toNat < d.toNat
          · rw [if_pos h1, beq e (by omega)]; rfl
          · by_cases h2 : d.toNat < e.toNat
            · rw [if_neg h1, if_pos h2, if_neg (by omega), beq e (by omega)]; simp
            · have : d = e := UInt8.toNat_inj.1 (by omega)
              rw [if_neg h1, if_neg h2, if_pos (by omega), il t, this]; simp
theorem less_lt (x y : List UInt8) : Op.bytesLess x y = ltB x y := less_cmp x y
end Go.Proofs.YtamohmpapdecdaaDoor.XK
namespace Go.Proofs.YtamohmpapdecdaaDoor.Pure
open Go.RowKit Go.Proofs.YtamohmpapdecdaaDoor.PAll Go.Proofs.YtamohmpapdecdaaDoor.XO Go.Proofs.YtamohmpapdecdaaDoor.XK Go.Proofs.YtamohmpapdecdaaDoorW.PrintWords Go.Proofs.YtamohmpapdecdaaDoorW.PrintLast
theorem KeysNext (a t : ByteArray) (hb : a.size + t.size ≤ 1048576) : ∃ k, factotumlaw02_KeysNext.f k a t = some true := by
  refine ⟨a.size + 1 + 4, ?_⟩
  unfold factotumlaw02_KeysNext.f
  rw [lives, Option.bind_some, if_pos rfl, knext a (by omega) _ (by omega), rnext a (by omega) _ (by omega)]
  obtain ⟨x, ok, hx⟩ : ∃ x ok, nextL a.data.toList = (x, ok) := ⟨_, _, rfl⟩
  rw [hx]
  simp only [Option.bind_some, if_pos]
  rw [if_neg (show ¬ ((ok != ok) = true) by simp)]
  obtain ⟨l1, l2⟩ := next_law a.data.toList
  have hh := heads_take a.data.toList t.data.toList
  rw [← Lib.size_eq, ← Lib.size_eq] at hh
  rw [less_lt, less_lt, Lib.toList_data, Lib.toList_data, Lib.toList_data]
  by_cases hs : a.size ≤ t.size
  · have hm : mn (a.size : Int) (t.size : Int) = (a.size : Int) := by unfold mn; split <;> omega
    rw [if_pos (show (a.size : Int) ≤ (t.size : Int) by omega), hm, if_pos (by omega), if_pos (by omega), Int.toNat_natCast, Lib.toList_data]
    rw [if_pos hs] at hh
    have ht : (t.extract 0 a.size).data.toList = t.data.toList.take a.size := by rw [Lib.extract_data]; rfl
    rw [ht, hh]
    cases ok with
    | false => rw [if_neg (by decide)]
    | true =>
      rw [if_pos rfl]
      have := l1 (by rw [hx]) t.data.toList
      rw [this, hx]
      cases ltB t.data.toList a.data.toList <;> simp
  · rw [if_neg (show ¬ (a.size : Int) ≤ (t.size : Int) by omega)]
    rw [if_neg hs] at hh
    cases ok with
    | false => rw [if_neg (by decide)]
    | true =>
      rw [if_pos rfl]
      have := l1 (by rw [hx]) t.data.toList
      rw [← hh, hx] at this
      cases h1 : ltB t.data.toList a.data.toList with
      | true => rfl
      | false =>
        rw [h1] at this
        rw [if_neg (by decide)]
        simp at this ⊢
        exact this
end Go.Proofs.YtamohmpapdecdaaDoor.Pure
