/- BenchJumps: runs (part 0). -/
import Derived.Test.YtgakgpbmcbegbaaGreatDoorCal
import Derived.KernelRfl
namespace Go.Proofs.YtgakgpbmcbegbaaGreatDoor
open Go Go.RowKit Fr
set_option linter.unusedVariables false
set_option maxRecDepth 20000
theorem c1_0 : ck1 0 true = true := by kernel_rfl
theorem c1_4 : ck1 4 true = true := by kernel_rfl
theorem c1_8 : ck1 8 true = true := by kernel_rfl
theorem c1_12 : ck1 12 true = true := by kernel_rfl
theorem c1_16 : ck1 16 true = true := by kernel_rfl
theorem c1_20 : ck1 20 true = true := by kernel_rfl
theorem c1_24 : ck1 24 true = true := by kernel_rfl
theorem c1_28 : ck1 28 true = true := by kernel_rfl
theorem c1_32 : ck1 32 true = true := by kernel_rfl
theorem c1_36 : ck1 36 true = true := by kernel_rfl
theorem c3_3 : ck3 3 true = true := by kernel_rfl
theorem c3_7 : ck3 7 true = true := by kernel_rfl
theorem c3_11 : ck3 11 true = true := by kernel_rfl
theorem c3_15 : ck3 15 true = true := by kernel_rfl
theorem c3_19 : ck3 19 true = true := by kernel_rfl
theorem c3_23 : ck3 23 true = true := by kernel_rfl
theorem c3_27 : ck3 27 true = true := by kernel_rfl
theorem c3_31 : ck3 31 true = true := by kernel_rfl
theorem c3_35 : ck3 35 true = true := by kernel_rfl
theorem c3_39 : ck3 39 true = true := by kernel_rfl
theorem c3_43 : ck3 43 true = true := by kernel_rfl
theorem c3_47 : ck3 47 true = true := by kernel_rfl
theorem c3_51 : ck3 51 true = true := by kernel_rfl
theorem c3_55 : ck3 55 true = true := by kernel_rfl
theorem c3_59 : ck3 59 true = true := by kernel_rfl
theorem c3_63 : ck3 63 true = true := by kernel_rfl
theorem c3_67 : ck3 67 true = true := by kernel_rfl
theorem c3_71 : ck3 71 true = true := by kernel_rfl
theorem c3_75 : ck3 75 true = true := by kernel_rfl
theorem c3_79 : ck3 79 true = true := by kernel_rfl
theorem c0_0 : ck0 false = true := by kernel_rfl
theorem c0_1 : ck0 true = true := by kernel_rfl
theorem c2 : ck2 = true := by kernel_rfl
theorem c4 : ck4 = true := by kernel_rfl
theorem c5 : ck5 = true := by kernel_rfl
end Go.Proofs.YtgakgpbmcbegbaaGreatDoor
