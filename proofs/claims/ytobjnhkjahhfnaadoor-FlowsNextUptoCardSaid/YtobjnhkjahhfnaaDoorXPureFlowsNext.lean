/- The plain law of FlowsNext. Condition: the bulk's bound. -/
import Derived.Test.YtobjnhkjahhfnaaDoorXFlowN
namespace Go.Proofs.YtobjnhkjahhfnaaDoor.Pure
open Go.RowKit Go.Proofs.YtobjnhkjahhfnaaDoor.PAll Go.Proofs.YtobjnhkjahhfnaaDoor.XF
theorem FlowsNext (f : XA.S30) (e : XA.S39) (now : Int) (_ : XA.in30 f) (_ : XA.in39 e) (_ : -9223372036854775808 ≤ now ∧ now < 9223372036854775808) (hb : XA.wt30 f + XA.wt39 e + 1 ≤ 1048576) :
    ∃ k, factotumlaw21_FlowsNext.f k f.f0 f.f1 f.f2.f0 f.f2.f1 f.f2.f2 f.f3 f.f4 f.f5 f.f6.f0 f.f6.f1 f.f6.f2 f.f7.f0 f.f7.f1 f.f8 e.f0 e.f1 e.f2 e.f3 e.f4 e.f5.f0 e.f5.f1 e.f5.f2 e.f6.f0 e.f6.f1 now = some true := by
  unfold XA.wt30 XA.wt39 XA.wt28 at hb
  have e1 : XA.wt24 f.f2 = 1 + 1 + (f.f2.f2.size + 1) + 1 := rfl
  have e2 : XA.wt24 f.f6 = 1 + 1 + (f.f6.f2.size + 1) + 1 := rfl
  have e3 : XA.wt24 e.f5 = 1 + 1 + (e.f5.f2.size + 1) + 1 := rfl
  obtain ⟨s1, s2⟩ := sz_of f.f7.f1 (by omega)
  obtain ⟨s3, s4⟩ := sz_of e.f6.f1 (by omega)
  refine ⟨2000000, ?_⟩
  generalize hK : 2000000 = K
  have hF : 2000000 ≤ K := by omega
  unfold factotumlaw21_FlowsNext.f
  rw [live21 (by omega), Option.bind_some, if_pos rfl, p_next f.f0 f.f1 f.f2 f.f3 f.f4 f.f5 f.f6 f.f7.f0 f.f7.f1 f.f8 e.f0 e.f1 e.f2 e.f3 e.f4 e.f5 e.f6.f0 e.f6.f1 now (by unfold SZ; omega) (by unfold SZ; omega) s1 (by unfold SZ; omega) s3 (by omega) (by omega), Option.bind_some,
    r_next f.f0 f.f1 f.f2 f.f3 f.f4 f.f5 f.f6 f.f7.f0 f.f7.f1 f.f8 e.f0 e.f1 e.f2 e.f3 e.f4 e.f5 e.f6.f0 e.f6.f1 now (by omega), Option.bind_some, if_pos rfl]
  have h := nextT_len f.f0 f.f1 f.f2 f.f3 f.f4 f.f5 f.f6 f.f7.f0 f.f7.f1 f.f8 e.f3 e.f4 e.f5 e.f6.f0 e.f6.f1 now
  rw [r_same_tup _ (by omega) (by omega)]; rfl
end Go.Proofs.YtobjnhkjahhfnaaDoor.Pure
