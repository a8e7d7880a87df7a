/- Printed walks of the functions that the laws reach: each function, what it computes, and that it does. No conditions. -/
import Derived.Test.YtamohmpapdecdaaDoorPAllx0
import Derived.Test.YtamohmpapdecdaaDoorPAllx1
import Derived.Test.YtamohmpapdecdaaDoorPAllx2
import Derived.Test.YtamohmpapdecdaaDoorPAllx3
import Derived.Test.YtamohmpapdecdaaDoorPAllx4
import Derived.Test.YtamohmpapdecdaaDoorPAllx5
import Derived.Test.YtamohmpapdecdaaDoorPAllx6
import Derived.Test.YtamohmpapdecdaaDoorPAllx7
import Derived.Test.YtamohmpapdecdaaDoorPAllx8
import Derived.Test.YtamohmpapdecdaaDoorPAllx9
import Derived.Test.YtamohmpapdecdaaDoorPAllx10
import Derived.Test.YtamohmpapdecdaaDoorPAllx11
import Derived.Test.YtamohmpapdecdaaDoorPAllx12
import Derived.Test.YtamohmpapdecdaaDoorPAllx13
import Derived.Test.YtamohmpapdecdaaDoorPAllx14
import Derived.Test.YtamohmpapdecdaaDoorPAllx15
import Derived.Test.YtamohmpapdecdaaDoorPAllx16
import Derived.Test.YtamohmpapdecdaaDoorPAllx17
namespace Go.Proofs.YtamohmpapdecdaaDoor.PAll
open Go.RowKit Go.Proofs.YtamohmpapdecdaaDoor.XW Go.Proofs.YtamohmpapdecdaaDoor.XLib Go.Proofs.YtamohmpapdecdaaDoorW.PrintWords Go.Proofs.YtamohmpapdecdaaDoorW.PrintLast Go.Proofs.YtamohmpapdecdaaDoorW.PrintMore
attribute [local go_sem] max2_int min2_int max_two min_two max_three min_three max_four min_four   -- for this text's walks alone
set_option linter.unusedVariables false
set_option linter.unusedSimpArgs false

end Go.Proofs.YtamohmpapdecdaaDoor.PAll
