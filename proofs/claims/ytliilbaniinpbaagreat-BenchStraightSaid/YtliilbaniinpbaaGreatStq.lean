/- BenchStraight: what is copied or compared word by word, at once. -/
import Derived.Test.YtliilbaniinpbaaGreatLo
import Derived.Test.YtliilbaniinpbaaGreatLBenchStraight
import Derived.Test.YtliilbaniinpbaaGreatIn
import Derived.KernelRfl
namespace Go.Proofs.YtliilbaniinpbaaGreat
open Go Go.RowKit Fr
set_option linter.unusedVariables false
set_option maxRecDepth 20000
theorem eq_self {b : Int → Option (Step Int Bool)} {xs : List Int} (hl : xs.length ≤ 140737488351232)
    (h1 : ∀ i : Nat, i < xs.length → b (i : Int) = some (.next (IntKind.i64.wrap ((i : Int) + 1)))) (h2 : b (xs.length : Int) = some (.done true)) : loop b 0 = some true := by
  obtain ⟨r, h, rfl⟩ := loop_ex (b := b) (fun i => 0 ≤ i ∧ i ≤ xs.length) (fun i => (xs.length - i).toNat) (fun r => r = true) (fun i hi => by
    obtain ⟨n, rfl⟩ := Int.eq_ofNat_of_zero_le hi.1
    by_cases h3 : n < xs.length
    · refine .inl ⟨_, h1 n h3, ?_, ?_⟩
      · rw [wrap_nat (by omega)]; omega
      · rw [wrap_nat (by omega)]; omega
    · have e : n = xs.length := by omega
      subst e
      exact .inr ⟨_, h2, rfl⟩) (xs.length + 1) 0 (by omega) (by omega)
  exact h
noncomputable def eqW (a b : List Int) : Option Bool := bif decide (a.length ≤ 140737488351232) && decide (a = b) then some true else r0_EqWords a b
theorem eqW_eq (a b : List Int) : r0_EqWords a b = eqW a b := by
  unfold eqW
  by_cases h1 : a.length ≤ 140737488351232
  · by_cases h2 : a = b
    · subst h2
      rw [decide_eq_true h1, decide_eq_true rfl]
      simp only [Bool.and_self, cond_true, r0_EqWords, ne_eq, not_true_eq_false, decide_false, cond_false]
      exact eq_self h1 (fun i h => by
        have e : decide ((i : Int) < (a.length : Int)) = true := decide_eq_true (by omega)
        simp only [r0_EqWords_b1, e, cond_true, at'_nat h, Option.bind_some, ne_eq, not_true_eq_false, decide_false, cond_false]) (by simp [r0_EqWords_b1])
    · rw [decide_eq_false h2, Bool.and_false, cond_false]
  · rw [decide_eq_false h1, Bool.false_and, cond_false]
noncomputable def eqS (a b : List Int) : Option Bool := bif decide (a.length ≤ 140737488351232) && decide (a = b) then some true else slices_Equal_uint32_uint32 a b
theorem eqS_eq (a b : List Int) : slices_Equal_uint32_uint32 a b = eqS a b := by
  unfold eqS
  by_cases h1 : a.length ≤ 140737488351232
  · by_cases h2 : a = b
    · subst h2
      rw [decide_eq_true h1, decide_eq_true rfl]
      simp only [Bool.and_self, cond_true, slices_Equal_uint32_uint32, ne_eq, not_true_eq_false, decide_false, cond_false]
      exact eq_self h1 (fun i h => by
        have e : decide ((i : Int) < (a.length : Int)) = true := decide_eq_true (by omega)
        simp only [slices_Equal_uint32_uint32_b1, e, cond_true, at'_nat h, Option.bind_some, ne_eq, not_true_eq_false, decide_false, cond_false]) (by simp [slices_Equal_uint32_uint32_b1])
    · rw [decide_eq_false h2, Bool.and_false, cond_false]
  · rw [decide_eq_false h1, Bool.false_and, cond_false]
noncomputable def cpW (a : List Int) : Option (List Int) := bif decide (a.length ≤ 4294967296) then some a else r0_CopyWords a
theorem cpW_eq (a : List Int) : r0_CopyWords a = cpW a := by
  unfold cpW
  by_cases h1 : a.length ≤ 4294967296
  · rw [decide_eq_true h1, cond_true]; exact loop_copied h1 fun _ _ => rfl
  · rw [decide_eq_false h1, cond_false]
noncomputable def fastU (u : T_Unit) : PSigma (fun r : Option Bool => l23_unitAlike u [7, 3] = r) := ⟨_, by
  unfold l23_unitAlike bench_Compare bench_same bench_begins r19_Compare r19_Compare_k1 r19_Compare_k2 r19_Compare_k3 r19_Load r5_New r5_Run r5_Cycles r0_CopyState
  simp only [eqS_eq, eqW_eq, cpW_eq]
  exact rfl⟩
theorem fastU_eq (u : T_Unit) : l23_unitAlike u [7, 3] = (fastU u).1 := (fastU u).2
noncomputable def fastB (D : Int) (x : T_Ask) (B : Int) : PSigma (fun r => l23_BenchStraight_b2 D x B = r) := ⟨_, by
  unfold l23_BenchStraight_b2 l23_BenchStraight_k4
  simp only [fastU_eq]
  exact rfl⟩
end Go.Proofs.YtliilbaniinpbaaGreat
