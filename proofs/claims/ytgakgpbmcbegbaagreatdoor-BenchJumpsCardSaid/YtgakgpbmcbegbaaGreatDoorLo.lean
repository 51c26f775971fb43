/- Plain laws of plain loops. -/
import Derived.Test.YtgakgpbmcbegbaaGreatDoorPure
namespace Go.Proofs.YtgakgpbmcbegbaaGreatDoor
open Go Fr
set_option linter.unusedVariables false
theorem at'_nat {α : Type} {xs : List α} {i : Nat} (h : i < xs.length) : at' xs (i : Int) = some xs[i] := by
  simp [at', List.getElem?_eq_getElem h]
theorem at'_int {α : Type} {xs : List α} {i : Int} (h0 : 0 ≤ i) (h : i < xs.length) : ∃ hl : i.toNat < xs.length, at' xs i = some xs[i.toNat] :=
  ⟨by omega, by simp [at', h0, List.getElem?_eq_getElem (show i.toNat < xs.length by omega)]⟩
theorem app'_le {α : Type} {xs ys : List α} (h : xs.length + ys.length ≤ 4294967296) : app' xs ys = some (xs ++ ys) := by
  simp only [app']
  rw [if_pos h]
theorem wrap_nat {i : Nat} (h : i < 9223372036854775807) : IntKind.i64.wrap ((i : Int) + 1) = ((i + 1 : Nat) : Int) := by
  rw [wrap_i64 (by omega) (by omega)]; omega
theorem loop_ex {σ ρ : Type} {b : σ → Option (Step σ ρ)} (inv : σ → Prop) (μ : σ → Nat) (post : ρ → Prop)
    (h : ∀ s, inv s → (∃ s', b s = some (.next s') ∧ inv s' ∧ μ s' < μ s) ∨ ∃ r, b s = some (.done r) ∧ post r) :
    ∀ (n : Nat) (s : σ), μ s < n → inv s → ∃ r, loop b s = some r ∧ post r
  | 0, _, hn, _ => by omega
  | n + 1, s, hn, hi => by
    rcases h s hi with ⟨s', h1, h2, h3⟩ | ⟨r, h1, h2⟩
    · rw [loop_next h1]
      exact loop_ex inv μ post h n s' (by omega) h2
    · exact ⟨r, loop_done h1, h2⟩
theorem loop_copy' {α : Type} {b : List α × Int → Option (Step (List α × Int) (List α))} {xs : List α}
    (hs : ∀ (i : Nat) (h : i < xs.length), b (xs.take i, (i : Int)) = some (.next (xs.take i ++ [xs[i]], ((i + 1 : Nat) : Int))))
    (he : b (xs, (xs.length : Int)) = some (.done xs)) : ∀ (m i : Nat), i + m = xs.length → loop b (xs.take i, (i : Int)) = some xs
  | 0, i, h => by
    obtain rfl : i = xs.length := by omega
    rw [List.take_length]
    exact loop_done he
  | m + 1, i, h => by
    have hi : i < xs.length := by omega
    rw [loop_next (hs i hi)]
    have : xs.take i ++ [xs[i]] = xs.take (i + 1) := by rw [List.take_succ_eq_append_getElem hi]
    rw [this]
    exact loop_copy' hs he m (i + 1) (by omega)
theorem loop_copy {α : Type} {b : List α × Int → Option (Step (List α × Int) (List α))} {xs : List α}
    (hs : ∀ (i : Nat) (h : i < xs.length), b (xs.take i, (i : Int)) = some (.next (xs.take i ++ [xs[i]], ((i + 1 : Nat) : Int))))
    (he : b (xs, (xs.length : Int)) = some (.done xs)) : loop b ([], 0) = some xs := by
  have := loop_copy' hs he xs.length 0 (by omega)
  simpa using this
theorem loop_copied {α : Type} {b : List α × Int → Option (Step (List α × Int) (List α))} {xs : List α} (hl : xs.length ≤ 4294967296)
    (hb : ∀ zs i, b (zs, i) = bif decide (i < (xs.length : Int)) then (at' xs i).bind fun x => (app' zs [x]).bind fun zs' => some (.next (zs', IntKind.i64.wrap (i + 1))) else some (.done zs)) :
    loop b ([], 0) = some xs := by
  refine loop_copy (fun i h => ?_) ?_
  · rw [hb]
    have h1 : decide ((i : Int) < xs.length) = true := by simpa using h
    rw [h1, at'_nat h]
    simp only [cond_true, Option.bind_some]
    rw [app'_le (by simp; omega)]
    simp only [Option.bind_some]
    rw [wrap_nat (by omega)]
  · rw [hb]
    simp
end Go.Proofs.YtgakgpbmcbegbaaGreatDoor
