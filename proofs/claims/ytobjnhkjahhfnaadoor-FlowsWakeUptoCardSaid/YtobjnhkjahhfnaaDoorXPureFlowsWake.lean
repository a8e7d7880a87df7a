/- The plain law of FlowsWake. Condition: the bulk's bound. -/
import Derived.Test.YtobjnhkjahhfnaaDoorXFlowW
namespace Go.Proofs.YtobjnhkjahhfnaaDoor.Pure
open Go.RowKit Go.Proofs.YtobjnhkjahhfnaaDoor.PAll Go.Proofs.YtobjnhkjahhfnaaDoor.XF
theorem FlowsWake (f g : XA.S30) (now : Int) (_ : XA.in30 f) (_ : XA.in30 g) (_ : -9223372036854775808 ≤ now ∧ now < 9223372036854775808) (hb : XA.wt30 f + XA.wt30 g + 1 ≤ 1048576) :
    ∃ k, factotumlaw21_FlowsWake.f k f.f0 f.f1 f.f2.f0 f.f2.f1 f.f2.f2 f.f3 f.f4 f.f5 f.f6.f0 f.f6.f1 f.f6.f2 f.f7.f0 f.f7.f1 f.f8 g.f0 g.f1 g.f2.f0 g.f2.f1 g.f2.f2 g.f3 g.f4 g.f5 g.f6.f0 g.f6.f1 g.f6.f2 g.f7.f0 g.f7.f1 g.f8 now = some true := by
  unfold XA.wt30 XA.wt28 at hb
  obtain ⟨s1, s2⟩ := sz_of f.f7.f1 (by omega)
  refine ⟨2000000, ?_⟩
  generalize hK : 2000000 = K
  have hF : 2000000 ≤ K := by omega
  have ew : @factotumref21_Wake.f = @flows_Wake.f := rfl
  have ec : @factotumref21_Cancel.f = @flows_Cancel.f := rfl
  have ee : @factotumref21_Ended.f = @flows_Ended.f := rfl
  obtain ⟨t, h1, l1⟩ := wake_some f.f0 f.f1 f.f2.f0 f.f2.f1 f.f2.f2 f.f3 f.f4 f.f5 f.f6.f0 f.f6.f1 f.f6.f2 f.f7.f0 f.f7.f1 f.f8 now
  obtain ⟨c, h2, l2⟩ := cancel_some f.f0 f.f1 f.f2.f0 f.f2.f1 f.f2.f2 f.f3 f.f4 f.f5 f.f6.f0 f.f6.f1 f.f6.f2 f.f7.f0 f.f7.f1 f.f8
  obtain ⟨b, h3, h4⟩ := same_eq f.f0 f.f1 f.f2.f0 f.f2.f1 f.f2.f2 f.f3 f.f4 f.f5 f.f6.f0 f.f6.f1 f.f6.f2 f.f7.f0 f.f7.f1 f.f8 g.f0 g.f1 g.f2.f0 g.f2.f1 g.f2.f2 g.f3 g.f4 g.f5 g.f6.f0 g.f6.f1 g.f6.f2 g.f7.f0 g.f7.f1 g.f8 (by omega) (k := K) (by omega)
  have q1 := r_same_tup t (k := K) (by omega) (by omega)
  have q2 := r_same_tup c (k := K) (by omega) (by omega)
  have hr := r_right f.f0 f.f1 f.f2 f.f3 f.f4 f.f5 f.f6 f.f7.f0 f.f7.f1 f.f8 (k := K) (by omega)
  unfold factotumlaw21_FlowsWake.f
  rw [live21 (by omega), Option.bind_some, if_pos rfl, ew, ec, ee, h1, h2, ended_eq]
  simp only [Option.bind_some]
  rw [if_pos (by simp), q1, Option.bind_some, if_pos rfl, if_pos (by simp), hr, Option.bind_some, h3, h4]
  simp only [Option.bind_some, beq_self_eq_true, if_true]
  rw [q2]
  simp only [Option.bind_some, if_true]
  split <;> rfl
end Go.Proofs.YtobjnhkjahhfnaaDoor.Pure
