/- Printed walks of the functions that the laws reach: each function, what it computes, and that it does. No conditions. -/
import Derived.Test.YtobjnhkjahhfnaaDoorPAllx0
import Derived.Test.YtobjnhkjahhfnaaDoorPAllx1
import Derived.Test.YtobjnhkjahhfnaaDoorPAllx2
import Derived.Test.YtobjnhkjahhfnaaDoorPAllx3
import Derived.Test.YtobjnhkjahhfnaaDoorPAllx4
import Derived.Test.YtobjnhkjahhfnaaDoorPAllx5
import Derived.Test.YtobjnhkjahhfnaaDoorPAllx6
import Derived.Test.YtobjnhkjahhfnaaDoorPAllx7
import Derived.Test.YtobjnhkjahhfnaaDoorPAllx8
import Derived.Test.YtobjnhkjahhfnaaDoorPAllx9
import Derived.Test.YtobjnhkjahhfnaaDoorPAllx10
import Derived.Test.YtobjnhkjahhfnaaDoorPAllx11
import Derived.Test.YtobjnhkjahhfnaaDoorPAllx12
import Derived.Test.YtobjnhkjahhfnaaDoorPAllx13
import Derived.Test.YtobjnhkjahhfnaaDoorPAllx14
import Derived.Test.YtobjnhkjahhfnaaDoorPAllx15
import Derived.Test.YtobjnhkjahhfnaaDoorPAllx16
import Derived.Test.YtobjnhkjahhfnaaDoorPAllx17
import Derived.Test.YtobjnhkjahhfnaaDoorPAllx18
import Derived.Test.YtobjnhkjahhfnaaDoorPAllx19
namespace Go.Proofs.YtobjnhkjahhfnaaDoor.PAll
open Go.RowKit Go.Proofs.YtobjnhkjahhfnaaDoor.XW Go.Proofs.YtobjnhkjahhfnaaDoor.XLib Go.Proofs.YtobjnhkjahhfnaaDoorW.PrintWords Go.Proofs.YtobjnhkjahhfnaaDoorW.PrintLast Go.Proofs.YtobjnhkjahhfnaaDoorW.PrintMore
attribute [local go_sem] max2_int min2_int max_two min_two max_three min_three max_four min_four   -- for this text's walks alone
set_option linter.unusedVariables false
set_option linter.unusedSimpArgs false

end Go.Proofs.YtobjnhkjahhfnaaDoor.PAll
