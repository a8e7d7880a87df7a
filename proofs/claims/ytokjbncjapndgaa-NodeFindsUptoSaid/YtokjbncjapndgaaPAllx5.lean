/- Printed walks of the functions that the laws reach: each function, what it computes, and that it does. No conditions. -/
import Derived.Test.YtokjbncjapndgaaPAllx0
namespace Go.Proofs.Ytokjbncjapndgaa.PAll
open Go.RowKit Go.Proofs.Ytokjbncjapndgaa.XW Go.Proofs.Ytokjbncjapndgaa.XLib Go.Proofs.YtokjbncjapndgaaW.PrintWords Go.Proofs.YtokjbncjapndgaaW.PrintLast Go.Proofs.YtokjbncjapndgaaW.PrintMore
attribute [local go_sem] max2_int min2_int max_two min_two max_three min_three max_four min_four   -- for this text's walks alone
set_option linter.unusedVariables false
set_option linter.unusedSimpArgs false

/-! ### api_Pair_41: function 41 -/
def api_Pair_41.f (l0 : List (S43)) (a1 : Int) (l2 : List (S43)) : Option (List (S43)) := if a1 = (l0.length : Int) ∧ 0 < l2.length ∧ l0.length + l2.length < 4398046511104 then some (l0 ++ l2) else none
set_option maxHeartbeats 4000000 in
set_option maxRecDepth 100000 in
theorem api_Pair_41.calls (P0_ : Nat → Prop) (u9000_ : Value) (l0 : List (S43)) (a1 : Int) (A2 : Option Addr) (c2 : Nat) (l2 : List (S43)) (r : List (S43)) (w0 w : World) (hB : Below w0.heap.size w0 w) (ho0 : Kd.R k43 43 w w0.heap.size P0_ u9000_ l0) (hr2 : ∀ W_, Kept w W_ (fun k_ => P0_ k_) → Kd.C k43 W_ A2 l2.length l2) (hc2 : l2.length ≤ c2) (h : api_Pair_41.f l0 a1 l2 = some r) :
    Calls Try.prog 41 #[u9000_, .int .i64 a1, .slice A2 l2.length c2] w fun e w' => ∃ v0_ : Value, e = .returned (v0_) ∧ Kd.R k43 43 w' w0.heap.size (fun k_ => (P0_ k_ ∨ w.heap.size ≤ k_)) v0_ r ∧ Below w0.heap.size w0 w' ∧ Kept w w' (fun k_ => P0_ k_) := by
  unfold api_Pair_41.f at h
  split at h
  case isFalse => cases h
  rename_i hl
  obtain ⟨hl1, hl2, hl3⟩ := hl
  obtain rfl := Option.some.inj h
  obtain ⟨A0, c0, e0⟩ := Kd.R_slice ho0
  subst e0
  subst hl1
  have hcap := (Kd.R_reads' ho0).2.1
  have HO := Aside0.mk (Kd.R_mono (ok' := fun k_ => (P0_ k_ ∨ w.heap.size ≤ k_)) ho0 (fun _ hk => .inl hk))
  have HP := Aside0.mk ho0.1
  have HR := Aside0.mk (hr2 w (Kept.refl _ _))
  have HB := Aside0.mk hB
  have HL := Aside0.mk hl3
  clear ho0 hr2 hB hl3
  have hz1 : (((l2.length : Nat) : Int) == 0) = false := by rw [beq_eq_false_iff_ne]; omega
  have hz2 : (l2.length == 0) = false := by rw [beq_eq_false_iff_ne]; omega
  have hm1 : ((l0.length : Nat) : Int) ≤ (l0.length : Int) := Int.le_refl _
  have hz3 : (((l0.length : Nat) : Int) == (l0.length : Int)) = true := beq_self_eq_true _
  have hz4 : (l0.length == l0.length) = true := beq_self_eq_true _
  go_enter Try.func41, Try.ntmps41
  go_wp2_with (at_builtin; refine Kd.R_append_rows k43 (w0 := w0) w0.heap.size rfl _ _ 22 43 (.agg #[(.string ⟨#[]⟩), (.string ⟨#[]⟩)]) 32 rfl Try.underlying22 info43 rfl (by decide) (by omega) _ l0 l2 _ _ _ (fun k_ => (P0_ k_ ∨ w.heap.size ≤ k_)) (fun _ => False) rfl rfl ?aO ?aR (fun _ _ h => h) (fun _ h => h.elim) (fun _ hk => .inr hk) ?aB ?aS ?aL ?_; (case aR => exact HR.out); (case aO => exact HO.out); (case aB => exact HB.out); (case aS => exact HB.out.size); (case aL => have := HL.out; omega); intro v1 w1 ho hb hg hat)
  all_goals
    go_wp2
    go_ret
    exact ⟨_, rfl, ho, hb, Kept.of_grown hg (Kept.refl _ _) (fun k_ e_ => .inl (HP.out _ e_))⟩

end Go.Proofs.Ytokjbncjapndgaa.PAll
