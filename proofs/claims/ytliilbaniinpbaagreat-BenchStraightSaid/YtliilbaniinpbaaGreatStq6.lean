/- BenchStraight: pairs of ops, reckoned out (part 6). -/
import Derived.Test.YtliilbaniinpbaaGreatStq
import Derived.Test.YtliilbaniinpbaaGreatLBenchStraight
import Derived.Test.YtliilbaniinpbaaGreatIn
import Derived.KernelRfl
namespace Go.Proofs.YtliilbaniinpbaaGreat
open Go Go.RowKit Fr
set_option linter.unusedVariables false
set_option maxRecDepth 20000
theorem st_7 (x : T_Ask) (b : Int) (h1 : 1 ≤ b) (h2 : b ≤ 23) : l23_BenchStraight_b2 7 x b = some (.next (IntKind.i64.wrap ((IntKind.i64.wrap (b + 1)) + (bits .and .i64 x.N 3)))) := by
  rcases (by omega : b = 1 ∨ b = 2 ∨ b = 3 ∨ b = 4 ∨ b = 5 ∨ b = 6 ∨ b = 7 ∨ b = 8 ∨ b = 9 ∨ b = 10 ∨ b = 11 ∨ b = 12 ∨ b = 13 ∨ b = 14 ∨ b = 15 ∨ b = 16 ∨ b = 17 ∨ b = 18 ∨ b = 19 ∨ b = 20 ∨ b = 21 ∨ b = 22 ∨ b = 23) with rfl | rfl | rfl | rfl | rfl | rfl | rfl | rfl | rfl | rfl | rfl | rfl | rfl | rfl | rfl | rfl | rfl | rfl | rfl | rfl | rfl | rfl | rfl <;> exact (fastB _ x _).2.trans (by kernel_rfl)
theorem st_15 (x : T_Ask) (b : Int) (h1 : 1 ≤ b) (h2 : b ≤ 23) : l23_BenchStraight_b2 15 x b = some (.next (IntKind.i64.wrap ((IntKind.i64.wrap (b + 1)) + (bits .and .i64 x.N 3)))) := by
  rcases (by omega : b = 1 ∨ b = 2 ∨ b = 3 ∨ b = 4 ∨ b = 5 ∨ b = 6 ∨ b = 7 ∨ b = 8 ∨ b = 9 ∨ b = 10 ∨ b = 11 ∨ b = 12 ∨ b = 13 ∨ b = 14 ∨ b = 15 ∨ b = 16 ∨ b = 17 ∨ b = 18 ∨ b = 19 ∨ b = 20 ∨ b = 21 ∨ b = 22 ∨ b = 23) with rfl | rfl | rfl | rfl | rfl | rfl | rfl | rfl | rfl | rfl | rfl | rfl | rfl | rfl | rfl | rfl | rfl | rfl | rfl | rfl | rfl | rfl | rfl <;> exact (fastB _ x _).2.trans (by kernel_rfl)
theorem st_23 (x : T_Ask) (b : Int) (h1 : 1 ≤ b) (h2 : b ≤ 23) : l23_BenchStraight_b2 23 x b = some (.next (IntKind.i64.wrap ((IntKind.i64.wrap (b + 1)) + (bits .and .i64 x.N 3)))) := by
  rcases (by omega : b = 1 ∨ b = 2 ∨ b = 3 ∨ b = 4 ∨ b = 5 ∨ b = 6 ∨ b = 7 ∨ b = 8 ∨ b = 9 ∨ b = 10 ∨ b = 11 ∨ b = 12 ∨ b = 13 ∨ b = 14 ∨ b = 15 ∨ b = 16 ∨ b = 17 ∨ b = 18 ∨ b = 19 ∨ b = 20 ∨ b = 21 ∨ b = 22 ∨ b = 23) with rfl | rfl | rfl | rfl | rfl | rfl | rfl | rfl | rfl | rfl | rfl | rfl | rfl | rfl | rfl | rfl | rfl | rfl | rfl | rfl | rfl | rfl | rfl <;> exact (fastB _ x _).2.trans (by kernel_rfl)
end Go.Proofs.YtliilbaniinpbaaGreat
