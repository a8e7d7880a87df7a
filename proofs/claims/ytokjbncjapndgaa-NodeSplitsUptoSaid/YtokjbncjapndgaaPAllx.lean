/- Printed walks of the functions that the laws reach: each function, what it computes, and that it does. No conditions. -/
import Derived.Test.YtokjbncjapndgaaPAllx0
import Derived.Test.YtokjbncjapndgaaPAllx1
import Derived.Test.YtokjbncjapndgaaPAllx2
import Derived.Test.YtokjbncjapndgaaPAllx3
import Derived.Test.YtokjbncjapndgaaPAllx4
import Derived.Test.YtokjbncjapndgaaPAllx5
import Derived.Test.YtokjbncjapndgaaPAllx6
import Derived.Test.YtokjbncjapndgaaPAllx7
import Derived.Test.YtokjbncjapndgaaPAllx8
import Derived.Test.YtokjbncjapndgaaPAllx9
import Derived.Test.YtokjbncjapndgaaPAllx10
import Derived.Test.YtokjbncjapndgaaPAllx11
import Derived.Test.YtokjbncjapndgaaPAllx12
import Derived.Test.YtokjbncjapndgaaPAllx13
import Derived.Test.YtokjbncjapndgaaPAllx14
import Derived.Test.YtokjbncjapndgaaPAllx15
import Derived.Test.YtokjbncjapndgaaPAllx16
import Derived.Test.YtokjbncjapndgaaPAllx17
import Derived.Test.YtokjbncjapndgaaPAllx18
import Derived.Test.YtokjbncjapndgaaPAllx19
import Derived.Test.YtokjbncjapndgaaPAllx20
import Derived.Test.YtokjbncjapndgaaPAllx21
import Derived.Test.YtokjbncjapndgaaPAllx22
import Derived.Test.YtokjbncjapndgaaPAllx23
namespace Go.Proofs.Ytokjbncjapndgaa.PAll
open Go.RowKit Go.Proofs.Ytokjbncjapndgaa.XW Go.Proofs.Ytokjbncjapndgaa.XLib Go.Proofs.YtokjbncjapndgaaW.PrintWords Go.Proofs.YtokjbncjapndgaaW.PrintLast Go.Proofs.YtokjbncjapndgaaW.PrintMore
attribute [local go_sem] max2_int min2_int max_two min_two max_three min_three max_four min_four   -- for this text's walks alone
set_option linter.unusedVariables false
set_option linter.unusedSimpArgs false

end Go.Proofs.Ytokjbncjapndgaa.PAll
