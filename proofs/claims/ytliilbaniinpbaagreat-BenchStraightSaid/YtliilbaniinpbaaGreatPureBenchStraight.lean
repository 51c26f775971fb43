/- The law BenchStraight, as a plain statement: proved. -/
import Derived.Test.YtliilbaniinpbaaGreatStq0
import Derived.Test.YtliilbaniinpbaaGreatStq1
import Derived.Test.YtliilbaniinpbaaGreatStq2
import Derived.Test.YtliilbaniinpbaaGreatStq3
import Derived.Test.YtliilbaniinpbaaGreatStq4
import Derived.Test.YtliilbaniinpbaaGreatStq5
import Derived.Test.YtliilbaniinpbaaGreatStq6
import Derived.Test.YtliilbaniinpbaaGreatStq7
import Derived.Test.YtliilbaniinpbaaGreatLo
import Derived.Test.YtliilbaniinpbaaGreatIn
import Derived.KernelRfl
namespace Go.Proofs.YtliilbaniinpbaaGreat
open Go Go.RowKit Fr
set_option linter.unusedVariables false
set_option maxRecDepth 20000
theorem and3 (n : Int) : 0 ≤ bits .and .i64 n 3 ∧ bits .and .i64 n 3 ≤ 3 := by
  show 0 ≤ IntKind.i64.wrap (((BitVec.ofInt 64 n) &&& (BitVec.ofInt 64 3)).toNat : Int) ∧ IntKind.i64.wrap (((BitVec.ofInt 64 n) &&& (BitVec.ofInt 64 3)).toNat : Int) ≤ 3
  have h : ((BitVec.ofInt 64 n) &&& (BitVec.ofInt 64 3)).toNat ≤ 3 := by
    rw [BitVec.toNat_and]
    exact Nat.and_le_right
  generalize ((BitVec.ofInt 64 n) &&& (BitVec.ofInt 64 3)).toNat = k at h
  rcases (by omega : k = 0 ∨ k = 1 ∨ k = 2 ∨ k = 3) with rfl | rfl | rfl | rfl <;> decide
theorem wakes_ok : l23_wakes = some true := by kernel_rfl
theorem inner (x : T_Ask) (a : Int) (h1 : 1 ≤ a) (h2 : a ≤ 23) : loop (l23_BenchStraight_b2 a x) 1 = some (.next (a + 1)) := by
  have hw : IntKind.i64.wrap (a + 1) = a + 1 := wrap_i64 (by omega) (by omega)
  obtain ⟨m0, m3⟩ := and3 x.N
  have step : ∀ b, 1 ≤ b → b ≤ 23 → l23_BenchStraight_b2 a x b = some (.next (b + 1 + bits .and .i64 x.N 3)) := by
    intro b b1 b2
    have e : IntKind.i64.wrap ((IntKind.i64.wrap (b + 1)) + (bits .and .i64 x.N 3)) = b + 1 + bits .and .i64 x.N 3 := by
      rw [wrap_i64 (n := b + 1) (by omega) (by omega), wrap_i64 (by omega) (by omega)]
    rw [← e]
    rcases (by omega : a = 1 ∨ a = 2 ∨ a = 3 ∨ a = 4 ∨ a = 5 ∨ a = 6 ∨ a = 7 ∨ a = 8 ∨ a = 9 ∨ a = 10 ∨ a = 11 ∨ a = 12 ∨ a = 13 ∨ a = 14 ∨ a = 15 ∨ a = 16 ∨ a = 17 ∨ a = 18 ∨ a = 19 ∨ a = 20 ∨ a = 21 ∨ a = 22 ∨ a = 23) with rfl | rfl | rfl | rfl | rfl | rfl | rfl | rfl | rfl | rfl | rfl | rfl | rfl | rfl | rfl | rfl | rfl | rfl | rfl | rfl | rfl | rfl | rfl
    · exact st_1 x b b1 b2
    · exact st_2 x b b1 b2
    · exact st_3 x b b1 b2
    · exact st_4 x b b1 b2
    · exact st_5 x b b1 b2
    · exact st_6 x b b1 b2
    · exact st_7 x b b1 b2
    · exact st_8 x b b1 b2
    · exact st_9 x b b1 b2
    · exact st_10 x b b1 b2
    · exact st_11 x b b1 b2
    · exact st_12 x b b1 b2
    · exact st_13 x b b1 b2
    · exact st_14 x b b1 b2
    · exact st_15 x b b1 b2
    · exact st_16 x b b1 b2
    · exact st_17 x b b1 b2
    · exact st_18 x b b1 b2
    · exact st_19 x b b1 b2
    · exact st_20 x b b1 b2
    · exact st_21 x b b1 b2
    · exact st_22 x b b1 b2
    · exact st_23 x b b1 b2
  obtain ⟨r, h, rfl⟩ := loop_ex (b := l23_BenchStraight_b2 a x) (fun b => 1 ≤ b ∧ b ≤ 27) (fun b => (27 - b).toNat) (fun r => r = .next (a + 1)) (fun b hb => by
    by_cases h3 : b ≤ 23
    · exact .inl ⟨_, step b hb.1 h3, by omega, by omega⟩
    · exact .inr ⟨_, by rw [l23_BenchStraight_b2, decide_eq_false h3, cond_false, hw], rfl⟩) 27 1 (by decide) (by decide)
  exact h
theorem pure_BenchStraight (x : T_Ask) (hx : Wf_Ask x) : l23_BenchStraight x = some true := by
  rw [l23_BenchStraight]
  obtain ⟨r, h, rfl⟩ := loop_ex (b := l23_BenchStraight_b1 x) (fun a => 1 ≤ a ∧ a ≤ 24) (fun a => (24 - a).toNat) (fun r => r = true) (fun a ha => by
    by_cases h3 : a ≤ 23
    · exact .inl ⟨a + 1, by rw [l23_BenchStraight_b1, decide_eq_true h3, cond_true, inner x a ha.1 h3], by omega, by omega⟩
    · exact .inr ⟨_, by rw [l23_BenchStraight_b1, decide_eq_false h3, cond_false, wakes_ok]; rfl, rfl⟩) 24 1 (by decide) (by decide)
  exact h
end Go.Proofs.YtliilbaniinpbaaGreat
