/- Printed walks of the functions that the laws reach: each function, what it computes, and that it does. No conditions. -/
import Derived.Test.YtjkjkebblkmpkaaDoorPAllx0
import Derived.Test.YtjkjkebblkmpkaaDoorPAllx1
import Derived.Test.YtjkjkebblkmpkaaDoorPAllx2
import Derived.Test.YtjkjkebblkmpkaaDoorPAllx3
import Derived.Test.YtjkjkebblkmpkaaDoorPAllx4
import Derived.Test.YtjkjkebblkmpkaaDoorPAllx5
import Derived.Test.YtjkjkebblkmpkaaDoorPAllx6
import Derived.Test.YtjkjkebblkmpkaaDoorPAllx7
import Derived.Test.YtjkjkebblkmpkaaDoorPAllx8
import Derived.Test.YtjkjkebblkmpkaaDoorPAllx9
import Derived.Test.YtjkjkebblkmpkaaDoorPAllx10
import Derived.Test.YtjkjkebblkmpkaaDoorPAllx11
import Derived.Test.YtjkjkebblkmpkaaDoorPAllx12
import Derived.Test.YtjkjkebblkmpkaaDoorPAllx13
namespace Go.Proofs.YtjkjkebblkmpkaaDoor.PAll
open Go.RowKit Go.Proofs.YtjkjkebblkmpkaaDoor.XW Go.Proofs.YtjkjkebblkmpkaaDoor.XLib Go.Proofs.YtjkjkebblkmpkaaDoorW.PrintWords Go.Proofs.YtjkjkebblkmpkaaDoorW.PrintLast Go.Proofs.YtjkjkebblkmpkaaDoorW.PrintMore
attribute [local go_sem] max2_int min2_int max_two min_two max_three min_three max_four min_four   -- for this text's walks alone
set_option linter.unusedVariables false
set_option linter.unusedSimpArgs false

end Go.Proofs.YtjkjkebblkmpkaaDoor.PAll
