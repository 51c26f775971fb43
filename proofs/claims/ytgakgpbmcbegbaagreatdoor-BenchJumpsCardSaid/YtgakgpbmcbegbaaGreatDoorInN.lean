/- What comes in: slices of things that hold slices themselves. -/
import Derived.Test.YtgakgpbmcbegbaaGreatDoorInKit
import Derived.Test.YtgakgpbmcbegbaaGreatDoorNest
namespace Go.Proofs.YtgakgpbmcbegbaaGreatDoor
open Go Go.RowKit Go.ChangeShapes Go.WideShapes Go.Deep Fr
set_option linter.unusedVariables false
theorem slice_inN {H : Type} {enc : TypeId × Value → H} {P : Program} {W : World} {held : Bool} {α : Type} {R : Frag → α → List Value → Prop} {sz : Nat} {t e : TypeId} {Wf : α → Prop} (ht : P.underlying t = some (.slice e)) (hc : P.cellsOf e = sz) (hsz : 0 < sz)
    (hel : ∀ (n : Nat) (cs : List Value) (y : DataW H × List MemPlace), DataW.trod enc P W 0 (fun _ => true) held n e cs = some y → (y.1.weights P e).all (· ≤ reachBytes) = true → ∃ x, R (all W) x cs ∧ Wf x ∧ cs.length = sz ∧ ∀ u ∈ cs, u.oneCell' = true)
    {n : Nat} {v : Value} {y : DataW H × List MemPlace} (h : DataW.trod enc P W 0 (fun _ => true) held n t [v] = some y) (hw : (y.1.weights P t).all (· ≤ reachBytes) = true) :
    ∃ xs : List α, SlN (all W) R sz xs v ∧ xs.length * P.bytesOf e ≤ 140737488351232 ∧ ∀ x ∈ xs, Wf x := by
  obtain ⟨zs, h1, h2, h3⟩ := slice_in (α := Nst α sz) (encα := Nst.enc) (Wf := fun z => R (all W) z.val z.enc ∧ Wf z.val) ht hc hsz Nst.enc_len (fun n cs y h hw => by
    obtain ⟨x, a, b, c, d⟩ := hel n cs y h hw
    exact ⟨⟨x, cs, c, d⟩, rfl, a, b⟩) h hw
  exact ⟨zs.map Nst.val, ⟨zs, rfl, h1, fun z hz => (h3 z hz).1⟩, by rw [List.length_map]; exact h2, fun x hx => by
    obtain ⟨z, hz, rfl⟩ := List.mem_map.1 hx
    exact (h3 z hz).2⟩
end Go.Proofs.YtgakgpbmcbegbaaGreatDoor
