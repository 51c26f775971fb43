/- Bytes: as strings and back; parts of strings; a row of bytes whose head may be frozen, appended to. -/
import Derived.Test.YtgakgpbmcbegbaaGreatDoorStr
import Derived.Test.YtgakgpbmcbegbaaGreatDoorCopy
import Derived.Laws.BytesArg
import Derived.Laws.IdiomStrings
import Derived.Laws.IdiomCopy
import Derived.Laws.Strings2
import Derived.Laws.Strings3
import Derived.Lib.UnsafeStr
import Derived.Lib.ConvBytes
namespace Go.Proofs.YtgakgpbmcbegbaaGreatDoor
open Go Fr
set_option linter.unusedVariables false
set_option linter.unusedSimpArgs false
theorem Fr.St.pb {W w : World} {g : Frag} {L0 L : Own} (h : St W g L0 L w) {b : Nat} {o : Obj} (hb : g.plus L b = some o) : w.heap[b]? = some o := by
  unfold Frag.plus at hb
  cases hg : g b with
  | some o' => simp only [hg, Option.some.injEq] at hb; subst hb; exact h.block hg
  | none => simp only [hg] at hb; exact h.own (Own.mem_of_look' hb)
theorem Fr.CB.pb {w : World} {g : Frag} {L : Own} (h : CB g L w) {b : Nat} {o : Obj} (hb : g.plus L b = some o) : w.heap[b]? = some o := by
  unfold Frag.plus at hb
  cases hg : g b with
  | some o' => simp only [hg, Option.some.injEq] at hb; subst hb; exact h.block hg
  | none => simp only [hg] at hb; exact h.own (Own.mem_of_look' hb)
def bytesOf (s : ByteArray) : List Int := s.data.toList.map fun b => (b.toNat : Int)
def ssub (s : ByteArray) (lo hi : Int) : Option ByteArray := if 0 ≤ lo ∧ lo ≤ hi ∧ hi ≤ s.size then some (s.extract lo.toNat hi.toNat) else none
theorem ssub_some {s c : ByteArray} {lo hi : Int} (h : ssub s lo hi = some c) : 0 ≤ lo ∧ lo ≤ hi ∧ hi ≤ s.size ∧ c = s.extract lo.toNat hi.toNat := by
  unfold ssub at h; split at h
  · cases h; rename_i h; exact ⟨h.1, h.2.1, h.2.2, rfl⟩
  · cases h
section
variable {P : Program} {C : World → Prop} {l : Fm} {d : Nat} {ty : TypeId} {ps : String} {af : Array Edge}
theorem y_ssB {s c : ByteArray} {lo hi : Int} {k k' : IntKind} {x a b : Operand} {t : TypeId} (hc : ssub s lo hi = some c) (ht : P.underlying t = some .string) (hx : ev l x = .string s := by (conv => lhs; whnf) <;> exact rfl) (ha : ev l a = .int k lo := by (conv => lhs; whnf) <;> exact rfl) (hb : ev l b = .int k' hi := by (conv => lhs; whnf) <;> exact rfl) : YV P C l ⟨some d, .slice t x (some a) (some b) none, ty, ps, af, none⟩ (.string c) := fun w hw => by
  obtain ⟨h0, h1, h2, rfl⟩ := ssub_some hc
  simp [execOp, hx, ha, hb, Instr.sliceAt, run_underlying ht, run_slice_string w t s k k' lo hi ht h0 h1 h2]
theorem y_ssU {s c : ByteArray} {hi : Int} {k' : IntKind} {x b : Operand} {t : TypeId} (hc : ssub s 0 hi = some c) (ht : P.underlying t = some .string) (hx : ev l x = .string s := by (conv => lhs; whnf) <;> exact rfl) (hb : ev l b = .int k' hi := by (conv => lhs; whnf) <;> exact rfl) : YV P C l ⟨some d, .slice t x none (some b) none, ty, ps, af, none⟩ (.string c) := fun w hw => by
  obtain ⟨h0, h1, h2, rfl⟩ := ssub_some hc
  simp [execOp, hx, hb, Instr.sliceAt, run_underlying ht, run_slice_string_to_if w t s k' hi ht, h1, h2]
theorem y_ssD {s c : ByteArray} {lo : Int} {k : IntKind} {x a : Operand} {t : TypeId} (hc : ssub s lo (s.size : Int) = some c) (ht : P.underlying t = some .string) (hx : ev l x = .string s := by (conv => lhs; whnf) <;> exact rfl) (ha : ev l a = .int k lo := by (conv => lhs; whnf) <;> exact rfl) : YV P C l ⟨some d, .slice t x (some a) none none, ty, ps, af, none⟩ (.string c) := fun w hw => by
  obtain ⟨h0, h1, h2, rfl⟩ := ssub_some hc
  simp [execOp, hx, ha, Instr.sliceAt, run_underlying ht, run_slice_string_from_if w t s k lo ht, h0, h1]
end
section
variable {P : Program} {ops : Array Oper} {Q : Exit → Act → World → Prop} {rest : List Oper} {l : Fm} {w : World} {d : Nat} {ty : TypeId} {ps : String} {af : Array Edge}
variable {W : World} {g : Frag} {L0 L : Own}
end
end Go.Proofs.YtgakgpbmcbegbaaGreatDoor
