/- Bytes: as strings and back; parts of strings; a row of bytes whose head may be frozen, appended to. -/
import Derived.Test.YtliilbaniinpbaaGreatStr
import Derived.Test.YtliilbaniinpbaaGreatCopy
import Derived.Laws.BytesArg
import Derived.Laws.IdiomStrings
import Derived.Laws.IdiomCopy
import Derived.Laws.Strings2
import Derived.Laws.Strings3
import Derived.Lib.UnsafeStr
import Derived.Lib.ConvBytes
namespace Go.Proofs.YtliilbaniinpbaaGreat
open Go Fr
set_option linter.unusedVariables false
set_option linter.unusedSimpArgs false
def bytesOf (s : ByteArray) : List Int := s.data.toList.map fun b => (b.toNat : Int)
section
variable {P : Program} {C : World → Prop} {l : Fm} {d : Nat} {ty : TypeId} {ps : String} {af : Array Edge}
end
section
variable {P : Program} {ops : Array Oper} {Q : Exit → Act → World → Prop} {rest : List Oper} {l : Fm} {w : World} {d : Nat} {ty : TypeId} {ps : String} {af : Array Edge}
variable {W : World} {g : Frag} {L0 L : Own}
end
end Go.Proofs.YtliilbaniinpbaaGreat
