/- A world in which the listed tables hold what their initialisers lay: for the witnesses. No conditions. -/
import Derived.Test.YtokjbncjapndgaaRows
import Derived.WalkKit
import Derived.ProofKit
import Derived.Deep.DeepHandedRow
import Derived.Lib.LaidU8
namespace Go.Proofs.Ytokjbncjapndgaa.XL
open Go.ChangeShapes Go.WideShapes Go.ChangeAt Go.RowKit
def put (h : Array Obj) (g : Nat) (cs : Array Value) : Array Obj := h.modify g fun
  | .cells _ t frozen => .cells cs t frozen
  | o => o
noncomputable def laidWorld (os : Os) : World :=
  { World.holding Try.prog os ⟨#[], #[], []⟩ with heap := (World.holding Try.prog os ⟨#[], #[], []⟩).heap }
theorem laid_met (os : Os) (args : Array Value) : laidMet Try.prog [] ((laidWorld os).forCall (fun _ _ => 0) ⟨#[], args, []⟩).memory :=
  laidMet_of_run' 8 (by kernel_rfl) (by kernel_rfl)
end Go.Proofs.Ytokjbncjapndgaa.XL
