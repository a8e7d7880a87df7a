/- Printed walks of the functions that the laws reach: each function, what it computes, and that it does. No conditions. -/
import Derived.Test.YtnlfppfdfdopiaaDoorPAllx0
import Derived.Test.YtnlfppfdfdopiaaDoorPAllx1
import Derived.Test.YtnlfppfdfdopiaaDoorPAllx2
import Derived.Test.YtnlfppfdfdopiaaDoorPAllx3
import Derived.Test.YtnlfppfdfdopiaaDoorPAllx4
import Derived.Test.YtnlfppfdfdopiaaDoorPAllx5
import Derived.Test.YtnlfppfdfdopiaaDoorPAllx6
import Derived.Test.YtnlfppfdfdopiaaDoorPAllx7
import Derived.Test.YtnlfppfdfdopiaaDoorPAllx8
namespace Go.Proofs.YtnlfppfdfdopiaaDoor.PAll
open Go.RowKit Go.Proofs.YtnlfppfdfdopiaaDoor.XW Go.Proofs.YtnlfppfdfdopiaaDoor.XLib Go.Proofs.YtnlfppfdfdopiaaDoorW.PrintWords Go.Proofs.YtnlfppfdfdopiaaDoorW.PrintLast Go.Proofs.YtnlfppfdfdopiaaDoorW.PrintMore
attribute [local go_sem] max2_int min2_int max_two min_two max_three min_three max_four min_four   -- for this text's walks alone
set_option linter.unusedVariables false
set_option linter.unusedSimpArgs false

end Go.Proofs.YtnlfppfdfdopiaaDoor.PAll
