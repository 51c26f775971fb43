/- From a contract of the layer to a given row: what came in, as slices; what is left of memory. -/
import Derived.Test.YtgakgpbmcbegbaaGreatDoorMore
import Derived.ProofKit
import Derived.OpenShut
import Derived.ChangeOld
import Derived.ChangeSlices
import Derived.SizedLaws
import Derived.Carry
import Derived.Lib.SmallJoins
namespace Go.Proofs.YtgakgpbmcbegbaaGreatDoor.Fr
open Go.RowKit Go.ChangeShapes Go.WideShapes
set_option linter.unusedVariables false
abbrev all (W : World) : Frag := fun b => W.heap[b]?
theorem LCs.row {P : Program} {f : FuncId} {args : Array Value} {W : World} {r : Value} (h : LCs P f args (all W) r) : Calls P f args W fun e w' => e = .returned r ∧ Below W.heap.size W w' := by
  have hS : St W (all W) [] [] W := ⟨rfl, rfl, rfl, Nat.le_refl _, fun _ _ _ => rfl, fun b o hb => ⟨hb, by simp⟩, (fun b o hb => by cases hb), by simp⟩
  refine (h W hS).mono ?_
  rintro e w' ⟨v, L', rfl, hs, rfl, rfl⟩
  exact ⟨rfl, hs.os, hs.tape, hs.output, hs.size, fun k hk => hs.keep k hk (by simp)⟩
theorem SlR.of_cells {W : World} {x : Addr} {n c sz : Nat} {xs : List Value} (hl : xs.length = n * sz) (hnc : n ≤ c) (hsz : 0 < sz) (hc : ∀ j u, xs[j]? = some u → W.cell? (x.add j) = some u) : SlR (all W) sz n xs (.slice (some x) n c) := by
  refine ⟨some x, c, rfl, ⟨hnc, fun e => by cases e⟩, hl, ?_⟩
  by_cases hn : n = 0
  · exact .inl hn
  · right
    have hpos : 0 < xs.length := by rw [hl]; exact Nat.mul_pos (by omega) hsz
    have h0 := hc 0 xs[0] (by simp [hpos])
    obtain ⟨b, o, sp⟩ := x
    have hx0 : (⟨b, o, sp⟩ : Addr).add 0 = ⟨b, o, sp⟩ := by simp [Addr.add]
    rw [hx0] at h0
    have hsp : sp = none := by
      cases sp with
      | none => rfl
      | some s => simp only [World.cell?] at h0; split at h0 <;> simp at h0
    subst hsp
    cases hq : W.heap[b]? with
    | none => simp [World.cell?, hq] at h0
    | some ob =>
      cases ob with
      | cells cs e fz =>
        refine ⟨b, o, cs, e, fz, rfl, hq, fun j u hj => ?_⟩
        have := hc j u hj
        rw [Addr.add_mid, cell_of_row W b (o + j) cs e fz hq] at this
        exact this
      | _ => simp [World.cell?, hq] at h0
section
variable {H : Type} {enc : TypeId × Value → H} {P : Program} {W : World} {base : Nat} {spare : Nat → Bool} {held : Bool}
end
end Go.Proofs.YtgakgpbmcbegbaaGreatDoor.Fr
