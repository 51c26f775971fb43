/- BenchJumps: runs (part 1). -/
import Derived.Test.YtgakgpbmcbegbaaGreatDoorCal
import Derived.KernelRfl
namespace Go.Proofs.YtgakgpbmcbegbaaGreatDoor
open Go Go.RowKit Fr
set_option linter.unusedVariables false
set_option maxRecDepth 20000
theorem c1_1 : ck1 1 true = true := by kernel_rfl
theorem c1_5 : ck1 5 true = true := by kernel_rfl
theorem c1_9 : ck1 9 true = true := by kernel_rfl
theorem c1_13 : ck1 13 true = true := by kernel_rfl
theorem c1_17 : ck1 17 true = true := by kernel_rfl
theorem c1_21 : ck1 21 true = true := by kernel_rfl
theorem c1_25 : ck1 25 true = true := by kernel_rfl
theorem c1_29 : ck1 29 true = true := by kernel_rfl
theorem c1_33 : ck1 33 true = true := by kernel_rfl
theorem c1_37 : ck1 37 false = true := by kernel_rfl
theorem c3_4 : ck3 4 true = true := by kernel_rfl
theorem c3_8 : ck3 8 true = true := by kernel_rfl
theorem c3_12 : ck3 12 true = true := by kernel_rfl
theorem c3_16 : ck3 16 true = true := by kernel_rfl
theorem c3_20 : ck3 20 true = true := by kernel_rfl
theorem c3_24 : ck3 24 true = true := by kernel_rfl
theorem c3_28 : ck3 28 true = true := by kernel_rfl
theorem c3_32 : ck3 32 true = true := by kernel_rfl
theorem c3_36 : ck3 36 true = true := by kernel_rfl
theorem c3_40 : ck3 40 true = true := by kernel_rfl
theorem c3_44 : ck3 44 true = true := by kernel_rfl
theorem c3_48 : ck3 48 true = true := by kernel_rfl
theorem c3_52 : ck3 52 true = true := by kernel_rfl
theorem c3_56 : ck3 56 true = true := by kernel_rfl
theorem c3_60 : ck3 60 true = true := by kernel_rfl
theorem c3_64 : ck3 64 true = true := by kernel_rfl
theorem c3_68 : ck3 68 true = true := by kernel_rfl
theorem c3_72 : ck3 72 true = true := by kernel_rfl
theorem c3_76 : ck3 76 true = true := by kernel_rfl
theorem c3_80 : ck3 80 false = true := by kernel_rfl
end Go.Proofs.YtgakgpbmcbegbaaGreatDoor
