/- The plain law of KeysHeads: bytes begin so just where the tuple does. Condition: the bulk's bound. -/
import Derived.Test.YtamohmpapdecdaaDoorXPureKeysNext
namespace Go.Proofs.YtamohmpapdecdaaDoor.XK
open Go.RowKit Go.Proofs.YtamohmpapdecdaaDoor.XW Go.Proofs.YtamohmpapdecdaaDoor.XLib Go.Proofs.YtamohmpapdecdaaDoor.PAll Go.Proofs.YtamohmpapdecdaaDoor.XO Go.Proofs.YtamohmpapdecdaaDoorW.PrintWords Go.Proofs.YtamohmpapdecdaaDoorW.PrintLast
theorem headsB_app (p : List UInt8) : ∀ x y : List UInt8, headsB (p ++ x) (p ++ y) = headsB x y := by
  induction p with
  | nil => intro x y; rfl
  | cons c p ih => intro x y; simp only [List.cons_append, headsB]; rw [ih]; simp
theorem headsB_ex : ∀ p q : List UInt8, headsB p q = true → ∃ z, q = p ++ z := by
  intro p
  induction p with
  | nil => intro q _; exact ⟨q, rfl⟩
  | cons c p ih =>
    intro q h
    cases q with
    | nil => cases h
    | cons d q =>
      simp only [headsB, Bool.and_eq_true, beq_iff_eq] at h
      obtain ⟨z, hz⟩ := ih q h.2
      exact ⟨z, by rw [h.1, hz]; rfl⟩
def headsV : List S39 → List S39 → Bool
  | [], _ => true
  | _ :: _, [] => false
  | u :: a, v :: b => sameV u v && headsV a b
theorem sameV_eq (u v : S39) (h : sameV u v = true) : u = v := by
  obtain ⟨a, b, s⟩ := u
  obtain ⟨c, d, t⟩ := v
  simp only [sameV, Bool.not_or, Bool.not_not, Bool.and_eq_true, beq_iff_eq] at h
  obtain ⟨h1, h2, h3⟩ := h
  have hst : s = t := ba_ext (by rw [← Lib.toList_data, ← Lib.toList_data, h3])
  rw [h1, h2, hst]
theorem headsV_enc : ∀ a b : List S39, a.any oddV = false → (∀ v ∈ a, inV v) → b.any oddV = false → (∀ v ∈ b, inV v) → headsB (encL a) (encL b) = headsV a b := by
  intro a
  induction a with
  | nil => intro b _ _ _ _; rfl
  | cons u a ih =>
    intro b ha ia hb ib
    rw [List.any_cons, Bool.or_eq_false_iff] at ha
    cases b with
    | nil =>
      rw [encL_cons]
      have : ∃ c r, encV u ++ encL a = c :: r := by unfold encV; split <;> exact ⟨_, _, rfl⟩
      obtain ⟨c, r, e⟩ := this
      rw [e]; rfl
    | cons v b =>
      rw [List.any_cons, Bool.or_eq_false_iff] at hb
      rw [encL_cons, encL_cons]
      simp only [headsV]
      cases hs : sameV u v with
      | true =>
        have e := sameV_eq u v hs
        subst e
        rw [headsB_app, ih b ha.2 (fun w hw => ia w (List.mem_cons_of_mem _ hw)) hb.2 (fun w hw => ib w (List.mem_cons_of_mem _ hw))]; rfl
      | false =>
        cases hh : headsB (encV u ++ encL a) (encV v ++ encL b) with
        | false => rfl
        | true =>
          obtain ⟨z, hz⟩ := headsB_ex _ _ hh
          have e1 := rdS_enc v hb.1 (ib v (List.mem_cons_self ..)) (encL b) 0 []
          rw [hz, List.append_assoc, rdS_enc u ha.1 (ia u (List.mem_cons_self ..)) (encL a ++ z) 0 []] at e1
          have e2 : u = v := by simpa [rdS] using e1
          rw [e2, sameV_refl] at hs
          cases hs
theorem headsV_take : ∀ a b : List S39, headsV a b = if a.length ≤ b.length then (a.zip (b.take a.length)).all fun x => sameV x.1 x.2 else false := by
  intro a
  induction a with
  | nil => intro b; simp [headsV]
  | cons u a ih =>
    intro b
    cases b with
    | nil => simp [headsV]
    | cons v b =>
      simp only [headsV, List.length_cons, List.take_succ_cons, List.zip_cons_cons, List.all_cons]
      rw [ih b]
      by_cases h : a.length ≤ b.length
      · rw [if_pos h, if_pos (by omega)]
      · rw [if_neg h, if_neg (by omega)]; simp
end Go.Proofs.YtamohmpapdecdaaDoor.XK
namespace Go.Proofs.YtamohmpapdecdaaDoor.Pure
open Go.RowKit Go.Proofs.YtamohmpapdecdaaDoor.PAll Go.Proofs.YtamohmpapdecdaaDoor.XO Go.Proofs.YtamohmpapdecdaaDoor.XK Go.Proofs.YtamohmpapdecdaaDoorW.PrintWords Go.Proofs.YtamohmpapdecdaaDoorW.PrintLast
theorem KeysHeads (a b : List S39) (ia : ∀ v ∈ a, inV v) (ib : ∀ v ∈ b, inV v) (hb : bulkV a + bulkV b ≤ 1048576) : ∃ k, factotumlaw02_KeysHeads.f k a b = some true := by
  obtain ⟨K, hK⟩ : ∃ K, K = 8000000 := ⟨_, rfl⟩
  refine ⟨K + 4, ?_⟩
  have hal := bulk_len a
  have hbl := bulk_len b
  unfold factotumlaw02_KeysHeads.f
  rw [lives, Option.bind_some, if_pos rfl, kwrite a (by omega), kwrite b (by omega)]
  cases oa : a.any oddV with
  | true =>
    rw [if_pos rfl, Option.bind_some]
    cases ob : b.any oddV with
    | true => rfl
    | false => rfl
  | false =>
    rw [if_neg (show ¬ (false = true) by decide), Option.bind_some]
    cases ob : b.any oddV with
    | true => rfl
    | false =>
      rw [if_neg (show ¬ (false = true) by decide), Option.bind_some]
      simp only [if_pos]
      have hh := heads_take (encL a) (encL b)
      rw [headsV_enc a b oa ia ob ib, headsV_take] at hh
      have za := ba_len (encL a)
      have zb := ba_len (encL b)
      have hml : mn (a.length : Int) (b.length : Int) = if a.length ≤ b.length then (a.length : Int) else (b.length : Int) := by unfold mn; (repeat' split) <;> omega
      rw [za, zb]
      have hms : mn ((encL a).length : Int) ((encL b).length : Int) = if (encL a).length ≤ (encL b).length then ((encL a).length : Int) else ((encL b).length : Int) := by unfold mn; (repeat' split) <;> omega
      have hx : (⟨(encL b).toArray⟩ : ByteArray).extract 0 (encL a).length = ⟨((encL b).take (encL a).length).toArray⟩ := ba_ext (by rw [Lib.extract_data]; simp)
      have hsame := same a (b.take a.length) (K + 4) (by omega) (by omega)
      by_cases h1 : (encL a).length ≤ (encL b).length
      · rw [if_pos (show ((encL a).length : Int) ≤ ((encL b).length : Int) by omega), hms, if_pos h1, if_pos (by omega), if_pos (by omega), Int.toNat_natCast, hx, Lib.toList_data, Lib.toList_data]
        rw [if_pos h1] at hh
        by_cases h2 : a.length ≤ b.length
        · rw [if_pos (show (a.length : Int) ≤ (b.length : Int) by omega), hml, if_pos h2, if_pos (by omega), if_pos (by omega), Int.toNat_natCast, hsame, if_pos (by rw [List.length_take]; omega), Option.bind_some]
          rw [if_pos h2] at hh
          rw [← hh]; simp
        · rw [if_neg (show ¬ (a.length : Int) ≤ (b.length : Int) by omega)]
          rw [if_neg h2] at hh
          rw [show ((encL b).take (encL a).length == encL a) = false from hh]; rfl
      · rw [if_neg (show ¬ ((encL a).length : Int) ≤ ((encL b).length : Int) by omega)]
        rw [if_neg h1] at hh
        by_cases h2 : a.length ≤ b.length
        · rw [if_pos (show (a.length : Int) ≤ (b.length : Int) by omega), hml, if_pos h2, if_pos (by omega), if_pos (by omega), Int.toNat_natCast, hsame, if_pos (by rw [List.length_take]; omega), Option.bind_some]
          rw [if_pos h2] at hh
          rw [← hh]; rfl
        · rw [if_neg (show ¬ (a.length : Int) ≤ (b.length : Int) by omega)]; rfl
end Go.Proofs.YtamohmpapdecdaaDoor.Pure
