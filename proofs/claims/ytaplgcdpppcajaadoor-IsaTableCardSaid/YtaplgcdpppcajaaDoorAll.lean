/- All of them. Printed by lift.py. -/
import Derived.Test.YtaplgcdpppcajaaDoorProg
import Derived.Test.YtaplgcdpppcajaaDoorIn
import Derived.Test.YtaplgcdpppcajaaDoorLo
import Derived.Test.YtaplgcdpppcajaaDoorP3
import Derived.KernelRfl
namespace Go.Proofs.YtaplgcdpppcajaaDoor
open Go Go.RowKit Fr
set_option linter.unusedVariables false
set_option linter.unusedSimpArgs false
set_option maxRecDepth 20000
end Go.Proofs.YtaplgcdpppcajaaDoor
