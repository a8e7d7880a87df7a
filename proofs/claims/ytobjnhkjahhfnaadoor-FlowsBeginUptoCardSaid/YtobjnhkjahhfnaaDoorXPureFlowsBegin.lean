/- The plain law of FlowsBegin. Condition: the bulk's bound. -/
import Derived.Test.YtobjnhkjahhfnaaDoorXFlow
namespace Go.Proofs.YtobjnhkjahhfnaaDoor.Pure
open Go.RowKit Go.Proofs.YtobjnhkjahhfnaaDoor.PAll Go.Proofs.YtobjnhkjahhfnaaDoor.XF
theorem FlowsBegin (id pr : Int) (arg : S24) (_ : -9223372036854775808 ≤ id ∧ id < 9223372036854775808) (_ : -9223372036854775808 ≤ pr ∧ pr < 9223372036854775808) (_ : XA.in24 arg) (hb : 1 + 1 + XA.wt24 arg ≤ 1048576) :
    ∃ k, factotumlaw21_FlowsBegin.f k id pr arg.f0 arg.f1 arg.f2 = some true := by
  have ha : arg.f2.size ≤ SZ := by unfold XA.wt24 at hb; unfold SZ; omega
  refine ⟨64, ?_⟩
  unfold factotumlaw21_FlowsBegin.f
  rw [live21 (by omega), Option.bind_some, if_pos rfl, p_begin id pr arg ha (by omega), Option.bind_some, r_begin id pr arg (by omega), Option.bind_some, if_pos rfl]
  have h := endT_len id pr arg 1 0 0 ⟨0, 0, ⟨#[]⟩⟩ 0 (firstL arg) false
  have hl : (firstL arg).length = 6 := rfl
  rw [r_same_tup _ (by omega) (by omega)]; rfl
end Go.Proofs.YtobjnhkjahhfnaaDoor.Pure
