/- Strings: put one behind the other. -/
import Derived.Test.YtliilbaniinpbaaGreatNest
import Derived.Laws.Concat
namespace Go.Proofs.YtliilbaniinpbaaGreat
open Go Fr
set_option linter.unusedVariables false
section
variable {P : Program} {C : World → Prop} {l : Fm} {d : Nat} {ty : TypeId} {ps : String} {af : Array Edge}
end
end Go.Proofs.YtliilbaniinpbaaGreat
