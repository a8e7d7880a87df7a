/- Printed walks of the functions that the laws reach: each function, what it computes, and that it does. No conditions. -/
import Derived.Test.YtokjbncjapndgaaDoorPAllx0
import Derived.Test.YtokjbncjapndgaaDoorPAllx1
import Derived.Test.YtokjbncjapndgaaDoorPAllx2
import Derived.Test.YtokjbncjapndgaaDoorPAllx3
import Derived.Test.YtokjbncjapndgaaDoorPAllx4
import Derived.Test.YtokjbncjapndgaaDoorPAllx5
import Derived.Test.YtokjbncjapndgaaDoorPAllx6
import Derived.Test.YtokjbncjapndgaaDoorPAllx7
import Derived.Test.YtokjbncjapndgaaDoorPAllx8
import Derived.Test.YtokjbncjapndgaaDoorPAllx9
import Derived.Test.YtokjbncjapndgaaDoorPAllx10
import Derived.Test.YtokjbncjapndgaaDoorPAllx11
import Derived.Test.YtokjbncjapndgaaDoorPAllx12
import Derived.Test.YtokjbncjapndgaaDoorPAllx13
import Derived.Test.YtokjbncjapndgaaDoorPAllx14
import Derived.Test.YtokjbncjapndgaaDoorPAllx15
import Derived.Test.YtokjbncjapndgaaDoorPAllx16
import Derived.Test.YtokjbncjapndgaaDoorPAllx17
namespace Go.Proofs.YtokjbncjapndgaaDoor.PAll
open Go.RowKit Go.Proofs.YtokjbncjapndgaaDoor.XW Go.Proofs.YtokjbncjapndgaaDoor.XLib Go.Proofs.YtokjbncjapndgaaDoorW.PrintWords Go.Proofs.YtokjbncjapndgaaDoorW.PrintLast Go.Proofs.YtokjbncjapndgaaDoorW.PrintMore
attribute [local go_sem] max2_int min2_int max_two min_two max_three min_three max_four min_four   -- for this text's walks alone
set_option linter.unusedVariables false
set_option linter.unusedSimpArgs false

end Go.Proofs.YtokjbncjapndgaaDoor.PAll
