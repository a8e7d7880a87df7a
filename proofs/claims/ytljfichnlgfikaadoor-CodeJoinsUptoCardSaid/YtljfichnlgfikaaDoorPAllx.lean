/- Printed walks of the functions that the laws reach: each function, what it computes, and that it does. No conditions. -/
import Derived.Test.YtljfichnlgfikaaDoorPAllx0
import Derived.Test.YtljfichnlgfikaaDoorPAllx1
import Derived.Test.YtljfichnlgfikaaDoorPAllx2
import Derived.Test.YtljfichnlgfikaaDoorPAllx3
import Derived.Test.YtljfichnlgfikaaDoorPAllx4
import Derived.Test.YtljfichnlgfikaaDoorPAllx5
import Derived.Test.YtljfichnlgfikaaDoorPAllx6
import Derived.Test.YtljfichnlgfikaaDoorPAllx7
import Derived.Test.YtljfichnlgfikaaDoorPAllx8
import Derived.Test.YtljfichnlgfikaaDoorPAllx9
import Derived.Test.YtljfichnlgfikaaDoorPAllx10
import Derived.Test.YtljfichnlgfikaaDoorPAllx11
import Derived.Test.YtljfichnlgfikaaDoorPAllx12
import Derived.Test.YtljfichnlgfikaaDoorPAllx13
import Derived.Test.YtljfichnlgfikaaDoorPAllx14
import Derived.Test.YtljfichnlgfikaaDoorPAllx15
import Derived.Test.YtljfichnlgfikaaDoorPAllx16
import Derived.Test.YtljfichnlgfikaaDoorPAllx17
import Derived.Test.YtljfichnlgfikaaDoorPAllx18
import Derived.Test.YtljfichnlgfikaaDoorPAllx19
import Derived.Test.YtljfichnlgfikaaDoorPAllx20
import Derived.Test.YtljfichnlgfikaaDoorPAllx21
import Derived.Test.YtljfichnlgfikaaDoorPAllx22
import Derived.Test.YtljfichnlgfikaaDoorPAllx23
import Derived.Test.YtljfichnlgfikaaDoorPAllx24
import Derived.Test.YtljfichnlgfikaaDoorPAllx25
import Derived.Test.YtljfichnlgfikaaDoorPAllx26
import Derived.Test.YtljfichnlgfikaaDoorPAllx27
import Derived.Test.YtljfichnlgfikaaDoorPAllx28
import Derived.Test.YtljfichnlgfikaaDoorPAllx29
import Derived.Test.YtljfichnlgfikaaDoorPAllx30
namespace Go.Proofs.YtljfichnlgfikaaDoor.PAll
open Go.RowKit Go.Proofs.YtljfichnlgfikaaDoor.XW Go.Proofs.YtljfichnlgfikaaDoor.XLib Go.Proofs.YtljfichnlgfikaaDoorW.PrintWords Go.Proofs.YtljfichnlgfikaaDoorW.PrintLast Go.Proofs.YtljfichnlgfikaaDoorW.PrintMore
attribute [local go_sem] max2_int min2_int max_two min_two max_three min_three max_four min_four   -- for this text's walks alone
set_option linter.unusedVariables false
set_option linter.unusedSimpArgs false

end Go.Proofs.YtljfichnlgfikaaDoor.PAll
