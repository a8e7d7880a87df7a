/- Printed walks of the functions that the laws reach: each function, what it computes, and that it does. No conditions. -/
import Derived.Test.YtekaeddagaejiaaDoorPAllx0
import Derived.Test.YtekaeddagaejiaaDoorPAllx1
import Derived.Test.YtekaeddagaejiaaDoorPAllx2
import Derived.Test.YtekaeddagaejiaaDoorPAllx3
import Derived.Test.YtekaeddagaejiaaDoorPAllx4
import Derived.Test.YtekaeddagaejiaaDoorPAllx5
import Derived.Test.YtekaeddagaejiaaDoorPAllx6
import Derived.Test.YtekaeddagaejiaaDoorPAllx7
import Derived.Test.YtekaeddagaejiaaDoorPAllx8
import Derived.Test.YtekaeddagaejiaaDoorPAllx9
import Derived.Test.YtekaeddagaejiaaDoorPAllx10
import Derived.Test.YtekaeddagaejiaaDoorPAllx11
import Derived.Test.YtekaeddagaejiaaDoorPAllx12
import Derived.Test.YtekaeddagaejiaaDoorPAllx13
import Derived.Test.YtekaeddagaejiaaDoorPAllx14
import Derived.Test.YtekaeddagaejiaaDoorPAllx15
namespace Go.Proofs.YtekaeddagaejiaaDoor.PAll
open Go.RowKit Go.Proofs.YtekaeddagaejiaaDoor.XW Go.Proofs.YtekaeddagaejiaaDoor.XLib Go.Proofs.YtekaeddagaejiaaDoorW.PrintWords Go.Proofs.YtekaeddagaejiaaDoorW.PrintLast Go.Proofs.YtekaeddagaejiaaDoorW.PrintMore
attribute [local go_sem] max2_int min2_int max_two min_two max_three min_three max_four min_four   -- for this text's walks alone
set_option linter.unusedVariables false
set_option linter.unusedSimpArgs false

end Go.Proofs.YtekaeddagaejiaaDoor.PAll
