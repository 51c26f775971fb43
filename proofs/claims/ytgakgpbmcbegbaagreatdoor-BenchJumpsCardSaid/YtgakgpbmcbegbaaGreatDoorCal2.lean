/- BenchJumps: runs (part 2). -/
import Derived.Test.YtgakgpbmcbegbaaGreatDoorCal
import Derived.KernelRfl
namespace Go.Proofs.YtgakgpbmcbegbaaGreatDoor
open Go Go.RowKit Fr
set_option linter.unusedVariables false
set_option maxRecDepth 20000
theorem c1_2 : ck1 2 true = true := by kernel_rfl
theorem c1_6 : ck1 6 true = true := by kernel_rfl
theorem c1_10 : ck1 10 true = true := by kernel_rfl
theorem c1_14 : ck1 14 true = true := by kernel_rfl
theorem c1_18 : ck1 18 true = true := by kernel_rfl
theorem c1_22 : ck1 22 true = true := by kernel_rfl
theorem c1_26 : ck1 26 true = true := by kernel_rfl
theorem c1_30 : ck1 30 true = true := by kernel_rfl
theorem c1_34 : ck1 34 true = true := by kernel_rfl
theorem c3_1 : ck3 1 true = true := by kernel_rfl
theorem c3_5 : ck3 5 true = true := by kernel_rfl
theorem c3_9 : ck3 9 true = true := by kernel_rfl
theorem c3_13 : ck3 13 true = true := by kernel_rfl
theorem c3_17 : ck3 17 true = true := by kernel_rfl
theorem c3_21 : ck3 21 true = true := by kernel_rfl
theorem c3_25 : ck3 25 true = true := by kernel_rfl
theorem c3_29 : ck3 29 true = true := by kernel_rfl
theorem c3_33 : ck3 33 true = true := by kernel_rfl
theorem c3_37 : ck3 37 true = true := by kernel_rfl
theorem c3_41 : ck3 41 true = true := by kernel_rfl
theorem c3_45 : ck3 45 true = true := by kernel_rfl
theorem c3_49 : ck3 49 true = true := by kernel_rfl
theorem c3_53 : ck3 53 true = true := by kernel_rfl
theorem c3_57 : ck3 57 true = true := by kernel_rfl
theorem c3_61 : ck3 61 true = true := by kernel_rfl
theorem c3_65 : ck3 65 true = true := by kernel_rfl
theorem c3_69 : ck3 69 true = true := by kernel_rfl
theorem c3_73 : ck3 73 true = true := by kernel_rfl
theorem c3_77 : ck3 77 true = true := by kernel_rfl
end Go.Proofs.YtgakgpbmcbegbaaGreatDoor
