/- BenchJumps: runs (part 3). -/
import Derived.Test.YtgakgpbmcbegbaaGreatDoorCal
import Derived.KernelRfl
namespace Go.Proofs.YtgakgpbmcbegbaaGreatDoor
open Go Go.RowKit Fr
set_option linter.unusedVariables false
set_option maxRecDepth 20000
theorem c1_3 : ck1 3 true = true := by kernel_rfl
theorem c1_7 : ck1 7 true = true := by kernel_rfl
theorem c1_11 : ck1 11 true = true := by kernel_rfl
theorem c1_15 : ck1 15 true = true := by kernel_rfl
theorem c1_19 : ck1 19 true = true := by kernel_rfl
theorem c1_23 : ck1 23 true = true := by kernel_rfl
theorem c1_27 : ck1 27 true = true := by kernel_rfl
theorem c1_31 : ck1 31 true = true := by kernel_rfl
theorem c1_35 : ck1 35 true = true := by kernel_rfl
theorem c3_2 : ck3 2 true = true := by kernel_rfl
theorem c3_6 : ck3 6 true = true := by kernel_rfl
theorem c3_10 : ck3 10 true = true := by kernel_rfl
theorem c3_14 : ck3 14 true = true := by kernel_rfl
theorem c3_18 : ck3 18 true = true := by kernel_rfl
theorem c3_22 : ck3 22 true = true := by kernel_rfl
theorem c3_26 : ck3 26 true = true := by kernel_rfl
theorem c3_30 : ck3 30 true = true := by kernel_rfl
theorem c3_34 : ck3 34 true = true := by kernel_rfl
theorem c3_38 : ck3 38 true = true := by kernel_rfl
theorem c3_42 : ck3 42 true = true := by kernel_rfl
theorem c3_46 : ck3 46 true = true := by kernel_rfl
theorem c3_50 : ck3 50 true = true := by kernel_rfl
theorem c3_54 : ck3 54 true = true := by kernel_rfl
theorem c3_58 : ck3 58 true = true := by kernel_rfl
theorem c3_62 : ck3 62 true = true := by kernel_rfl
theorem c3_66 : ck3 66 true = true := by kernel_rfl
theorem c3_70 : ck3 70 true = true := by kernel_rfl
theorem c3_74 : ck3 74 true = true := by kernel_rfl
theorem c3_78 : ck3 78 true = true := by kernel_rfl
end Go.Proofs.YtgakgpbmcbegbaaGreatDoor
