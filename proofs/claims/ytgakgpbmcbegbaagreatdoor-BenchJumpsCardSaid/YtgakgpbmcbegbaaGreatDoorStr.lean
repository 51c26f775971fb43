/- Strings: put one behind the other. -/
import Derived.Test.YtgakgpbmcbegbaaGreatDoorNest
import Derived.Laws.Concat
namespace Go.Proofs.YtgakgpbmcbegbaaGreatDoor
open Go Fr
set_option linter.unusedVariables false
def cat' (a b : ByteArray) : Option ByteArray := if a.size + b.size ≤ 9223372036854775807 then some (a ++ b) else none
theorem cat'_some {a b c : ByteArray} (h : cat' a b = some c) : a.size + b.size ≤ 9223372036854775807 ∧ c = a ++ b := by
  unfold cat' at h; split at h
  · cases h; exact ⟨by assumption, rfl⟩
  · cases h
section
variable {P : Program} {C : World → Prop} {l : Fm} {d : Nat} {ty : TypeId} {ps : String} {af : Array Edge}
theorem y_cat {a b c : ByteArray} {x y : Operand} {t t' : TypeId} (hc : cat' a b = some c) (hx : ev l x = .string a := by (conv => lhs; whnf) <;> exact rfl) (hy : ev l y = .string b := by (conv => lhs; whnf) <;> exact rfl) : YV P C l ⟨some d, .binOp .add t x y t', ty, ps, af, none⟩ (.string c) := fun w hw => by
  obtain ⟨h, rfl⟩ := cat'_some hc
  have hr : (binOp .add t (.string a) (.string b)).run P w = .ok (.string (a ++ b)) w := by
    simp only [binOp]
    exact run_string_add_sum w a b h
  simp [execOp, hx, hy, eqGuard, hr]
end
end Go.Proofs.YtgakgpbmcbegbaaGreatDoor
