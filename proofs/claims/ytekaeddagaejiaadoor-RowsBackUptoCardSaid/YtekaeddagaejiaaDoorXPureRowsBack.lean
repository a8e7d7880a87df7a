/- The plain law of RowsBack: what is written is read again. Condition: the bulk's bound. -/
import Derived.Test.YtekaeddagaejiaaDoorXRowsRead
import Derived.Test.YtekaeddagaejiaaDoorXA
namespace Go.Proofs.YtekaeddagaejiaaDoor.XR
open Go.RowKit Go.Proofs.YtekaeddagaejiaaDoor.PAll Go.Proofs.YtekaeddagaejiaaDoor.XP Go.Proofs.YtekaeddagaejiaaDoor.XV
theorem lives03 (k : Nat) : factotumlaw03_lives.f (k + 64) = some true := by
  have h : factotumlaw03_lives.f 64 = some true := by kernel_rfl
  induction k with
  | zero => exact h
  | succ k ih => rw [show k + 1 + 64 = (k + 64) + 1 by omega]; exact factotumlaw03_lives.mono _ _ ih
theorem bd_of (r : List S29) (h : (r.map XA.wt29).sum ≤ 1048576) : bd r := by
  induction r with
  | nil => intro v hv; cases hv
  | cons u r ih =>
    rw [List.map_cons, List.sum_cons] at h
    intro v hv
    rcases List.mem_cons.1 hv with rfl | hv
    · unfold XA.wt29 at h; omega
    · exact ih (by omega) v hv
end Go.Proofs.YtekaeddagaejiaaDoor.XR

namespace Go.Proofs.YtekaeddagaejiaaDoor.XR
open Go.RowKit Go.Proofs.YtekaeddagaejiaaDoor.PAll Go.Proofs.YtekaeddagaejiaaDoor.XP Go.Proofs.YtekaeddagaejiaaDoor.XV
theorem encR_le (v : S29) (h : valOK v = true) : (encR v).length ≤ 11 := by
  have := ok_parts h
  have hl : v.f2.data.toList.length = v.f2.size := (Lib.size_eq _).symm
  unfold encR; split
  · rw [beN_len]; omega
  · rw [List.length_cons, List.length_take]; omega
theorem restB_le : ∀ (ks : List Int) (r : List S29), ks.length = r.length → all2 ks r = true → (restB r).length ≤ 11 * r.length := by
  intro ks
  induction ks with
  | nil => intro r hn _; obtain rfl : r = [] := List.eq_nil_of_length_eq_zero (by simpa using hn.symm); simp [restB]
  | cons k ks ih =>
    intro r hn ha
    cases r with
    | nil => simp [restB]
    | cons v r =>
      rw [all2_cons, Bool.and_eq_true] at ha
      have h1 := encR_le v (fit_ok ha.1).2
      have h2 := ih r (by simpa using hn) ha.2
      rw [restB_cons, List.length_append, List.length_cons]; omega
theorem read_write (ks : List Int) (u x : Int) (r : List S29) (hi : ∀ v ∈ r, XO.inV v) (h : fitsE ks u x r = 0) :
    readE ks u x (B (writeE ks u x r).1) (writeE ks u x r).2.1 = (r, 0) ∧ (writeE ks u x r).1.length ≤ 32 ∧ (writeE ks u x r).2.1.length ≤ 40 := by
  obtain ⟨hr, hn, ha⟩ := fits_ok h
  have hl := right_len hr
  cases ks with
  | nil => simp at hl
  | cons k ks =>
    cases r with
    | nil => simp at hn
    | cons v r =>
      have ha' := ha
      rw [all2_cons, Bool.and_eq_true] at ha'
      have hv := (fit_ok ha'.1).2
      obtain ⟨ho, hz⟩ := ok_parts hv
      have hw : writeE (k :: ks) u x (v :: r) = (encV v, restB r, 0) := by unfold writeE; rw [if_pos h]; rfl
      rw [hw]
      have hlen := XK.encV_len v
      have hrest := restB_le ks r (by simpa using hn.symm) ha'.2
      have hrl : r.length ≤ 3 := by simp only [List.length_cons] at hn hl; omega
      refine ⟨?_, by simp only; omega, by simp only; omega⟩
      have hk := XK.read_write [v] (by simp [ho]) (fun w hw => by obtain rfl := List.mem_singleton.1 hw; exact hi _ (List.mem_cons_self ..))
      have e : encL [v] = encV v := by simp [encL]
      rw [e] at hk
      unfold readE
      simp only
      rw [if_pos hr, show B (encV v) = ⟨(encV v).toArray⟩ from rfl, hk, if_pos ⟨rfl, rfl⟩]
      have hc := cols_enc ks r [v] [] (by simpa using hn.symm) ha'.2 (fun w hw => hi w (List.mem_cons_of_mem _ hw))
      rw [List.append_nil] at hc
      unfold endE
      rw [show (k :: ks).drop 1 = ks from rfl]
      simp only
      rw [hc]
      simp only
      rw [if_pos (show doneE [] 0 = 0 from rfl), show [v] ++ r = v :: r from rfl, if_pos h]
end Go.Proofs.YtekaeddagaejiaaDoor.XR
namespace Go.Proofs.YtekaeddagaejiaaDoor.Pure
open Go.RowKit Go.Proofs.YtekaeddagaejiaaDoor.PAll Go.Proofs.YtekaeddagaejiaaDoor.XP Go.Proofs.YtekaeddagaejiaaDoor.XV Go.Proofs.YtekaeddagaejiaaDoor.XR
theorem RowsBack (s : XA.S24) (r : List S29) (_ : XA.in24 s) (hi : ∀ u ∈ r, XA.in29 u) (hb : XA.wt24 s + ((r.map XA.wt29).sum + 1) ≤ 1048576) :
    ∃ k, factotumlaw03_RowsBack.f k s.f0 s.f1 s.f2 r = some true := by
  refine ⟨128, ?_⟩
  have hr := bd_of r (by omega)
  unfold factotumlaw03_RowsBack.f
  rw [lives03 64, Option.bind_some, if_pos rfl, p_write _ _ _ r hr (by omega), Option.bind_some]
  simp only
  by_cases h0 : fitsE s.f0 s.f1 s.f2 r = 0
  · obtain ⟨h1, h2, h3⟩ := read_write s.f0 s.f1 s.f2 r (fun v hv => hi v hv) h0
    have hw : (writeE s.f0 s.f1 s.f2 r).2.2 = 0 := by unfold writeE; rw [if_pos h0]
    have hl := fits_ok h0
    have hl4 := right_len hl.1
    rw [if_pos hw, p_read _ _ _ _ _ (by rw [B_size]; omega) (by rw [B_size]; omega), Option.bind_some, h1]
    simp only
    rw [if_pos trivial, XK.same_refl r 128 (by omega) (by omega), Option.bind_some, if_pos rfl, if_pos (by rw [B_size]; omega)]
    rw [B_size]; simp; omega
  · have hw : writeE s.f0 s.f1 s.f2 r = ([], [], fitsE s.f0 s.f1 s.f2 r) := by unfold writeE; rw [if_neg h0]
    rw [hw]
    simp only
    rw [if_neg h0, if_pos (B_list []), B_list]; rfl
end Go.Proofs.YtekaeddagaejiaaDoor.Pure
