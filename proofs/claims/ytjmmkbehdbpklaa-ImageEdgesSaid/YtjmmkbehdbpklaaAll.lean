/- All of them. Printed by lift.py. -/
import Derived.Test.YtjmmkbehdbpklaaProg
import Derived.Test.YtjmmkbehdbpklaaIn
import Derived.Test.YtjmmkbehdbpklaaLo
import Derived.Test.YtjmmkbehdbpklaaP5
import Derived.KernelRfl
namespace Go.Proofs.Ytjmmkbehdbpklaa
open Go Go.RowKit Fr
set_option linter.unusedVariables false
set_option linter.unusedSimpArgs false
set_option maxRecDepth 20000
end Go.Proofs.Ytjmmkbehdbpklaa
