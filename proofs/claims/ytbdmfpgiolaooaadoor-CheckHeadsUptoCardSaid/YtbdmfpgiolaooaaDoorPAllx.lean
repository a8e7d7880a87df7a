/- Printed walks of the functions that the laws reach: each function, what it computes, and that it does. No conditions. -/
import Derived.Test.YtbdmfpgiolaooaaDoorPAllx0
import Derived.Test.YtbdmfpgiolaooaaDoorPAllx1
import Derived.Test.YtbdmfpgiolaooaaDoorPAllx2
import Derived.Test.YtbdmfpgiolaooaaDoorPAllx3
import Derived.Test.YtbdmfpgiolaooaaDoorPAllx4
import Derived.Test.YtbdmfpgiolaooaaDoorPAllx5
import Derived.Test.YtbdmfpgiolaooaaDoorPAllx6
import Derived.Test.YtbdmfpgiolaooaaDoorPAllx7
import Derived.Test.YtbdmfpgiolaooaaDoorPAllx8
import Derived.Test.YtbdmfpgiolaooaaDoorPAllx9
import Derived.Test.YtbdmfpgiolaooaaDoorPAllx10
import Derived.Test.YtbdmfpgiolaooaaDoorPAllx11
import Derived.Test.YtbdmfpgiolaooaaDoorPAllx12
import Derived.Test.YtbdmfpgiolaooaaDoorPAllx13
import Derived.Test.YtbdmfpgiolaooaaDoorPAllx14
import Derived.Test.YtbdmfpgiolaooaaDoorPAllx15
import Derived.Test.YtbdmfpgiolaooaaDoorPAllx16
import Derived.Test.YtbdmfpgiolaooaaDoorPAllx17
import Derived.Test.YtbdmfpgiolaooaaDoorPAllx18
import Derived.Test.YtbdmfpgiolaooaaDoorPAllx19
import Derived.Test.YtbdmfpgiolaooaaDoorPAllx20
import Derived.Test.YtbdmfpgiolaooaaDoorPAllx21
import Derived.Test.YtbdmfpgiolaooaaDoorPAllx22
import Derived.Test.YtbdmfpgiolaooaaDoorPAllx23
namespace Go.Proofs.YtbdmfpgiolaooaaDoor.PAll
open Go.RowKit Go.Proofs.YtbdmfpgiolaooaaDoor.XW Go.Proofs.YtbdmfpgiolaooaaDoor.XLib Go.Proofs.YtbdmfpgiolaooaaDoorW.PrintWords Go.Proofs.YtbdmfpgiolaooaaDoorW.PrintLast Go.Proofs.YtbdmfpgiolaooaaDoorW.PrintMore
attribute [local go_sem] max2_int min2_int max_two min_two max_three min_three max_four min_four   -- for this text's walks alone
set_option linter.unusedVariables false
set_option linter.unusedSimpArgs false

end Go.Proofs.YtbdmfpgiolaooaaDoor.PAll
