/- The law BenchMemory, as a plain statement: proved. -/
import Derived.Test.YtkhniclfnhgobaaGreatDoorLBenchMemory
import Derived.Test.YtkhniclfnhgobaaGreatDoorIn
import Derived.Test.YtkhniclfnhgobaaGreatDoorLo
import Derived.KernelRfl
namespace Go.Proofs.YtkhniclfnhgobaaGreatDoor
open Go Go.RowKit Fr
set_option linter.unusedVariables false
set_option maxRecDepth 20000
def tx : ByteArray := ByteArray.mk #[46, 103, 108, 111, 98, 97, 108, 32, 109, 97, 105, 110, 10, 109, 97, 105, 110, 58, 32, 108, 105, 32, 114, 49, 44, 32, 116, 10, 108, 105, 32, 114, 50, 44, 32, 52, 10, 108, 111, 111, 112, 58, 32, 108, 100, 32, 114, 51, 44, 32, 114, 49, 44, 32, 48, 10, 97, 100, 100, 105, 32, 114, 51, 44, 32, 114, 51, 44, 32, 49, 10, 115, 116, 32, 114, 51, 44, 32, 114, 49, 44, 32, 48, 10, 108, 100, 32, 114, 52, 44, 32, 114, 49, 44, 32, 48, 10, 111, 117, 116, 32, 114, 52, 10, 97, 100, 100, 105, 32, 114, 49, 44, 32, 114, 49, 44, 32, 49, 10, 97, 100, 100, 105, 32, 114, 50, 44, 32, 114, 50, 44, 32, 45, 49, 10, 98, 110, 122, 32, 114, 50, 44, 32, 108, 111, 111, 112, 10, 108, 105, 32, 114, 53, 44, 32, 112, 10, 108, 100, 32, 114, 53, 44, 32, 114, 53, 44, 32, 48, 10, 108, 100, 32, 114, 54, 44, 32, 114, 53, 44, 32, 48, 10, 111, 117, 116, 32, 114, 54, 10, 104, 97, 108, 116, 10, 46, 100, 97, 116, 97, 10, 116, 58, 32, 46, 119, 111, 114, 100, 32, 53, 44, 32, 54, 44, 32, 55, 44, 32, 56, 10, 112, 58, 32, 46, 119, 111, 114, 100, 32, 116, 43, 50]
def imx : T_Image := ⟨[⟨⟨23, 1, 0, 0, 0, ByteArray.empty⟩, ⟨23, 2, 0, 0, 4, ByteArray.empty⟩, ⟨0, 0, 0, 0, 0, ByteArray.empty⟩, ⟨0, 0, 0, 0, 0, ByteArray.empty⟩⟩, ⟨⟨22, 2, 2, 0, -1, ByteArray.empty⟩, ⟨0, 0, 0, 0, 0, ByteArray.empty⟩, ⟨24, 3, 1, 0, 0, ByteArray.empty⟩, ⟨0, 0, 0, 0, 0, ByteArray.empty⟩⟩, ⟨⟨0, 0, 0, 0, 0, ByteArray.empty⟩, ⟨0, 0, 0, 0, 0, ByteArray.empty⟩, ⟨0, 0, 0, 0, 0, ByteArray.empty⟩, ⟨0, 0, 0, 0, 0, ByteArray.empty⟩⟩, ⟨⟨0, 0, 0, 0, 0, ByteArray.empty⟩, ⟨0, 0, 0, 0, 0, ByteArray.empty⟩, ⟨0, 0, 0, 0, 0, ByteArray.empty⟩, ⟨0, 0, 0, 0, 0, ByteArray.empty⟩⟩, ⟨⟨22, 3, 3, 0, 1, ByteArray.empty⟩, ⟨0, 0, 0, 0, 0, ByteArray.empty⟩, ⟨0, 0, 0, 0, 0, ByteArray.empty⟩, ⟨0, 0, 0, 0, 0, ByteArray.empty⟩⟩, ⟨⟨0, 0, 0, 0, 0, ByteArray.empty⟩, ⟨0, 0, 0, 0, 0, ByteArray.empty⟩, ⟨25, 0, 1, 3, 0, ByteArray.empty⟩, ⟨0, 0, 0, 0, 0, ByteArray.empty⟩⟩, ⟨⟨0, 0, 0, 0, 0, ByteArray.empty⟩, ⟨0, 0, 0, 0, 0, ByteArray.empty⟩, ⟨24, 4, 1, 0, 0, ByteArray.empty⟩, ⟨0, 0, 0, 0, 0, ByteArray.empty⟩⟩, ⟨⟨22, 1, 1, 0, 1, ByteArray.empty⟩, ⟨0, 0, 0, 0, 0, ByteArray.empty⟩, ⟨0, 0, 0, 0, 0, ByteArray.empty⟩, ⟨0, 0, 0, 0, 0, ByteArray.empty⟩⟩, ⟨⟨30, 0, 2, 0, 1, ByteArray.empty⟩, ⟨0, 0, 0, 0, 0, ByteArray.empty⟩, ⟨0, 0, 0, 0, 0, ByteArray.empty⟩, ⟨0, 0, 0, 0, 0, ByteArray.empty⟩⟩, ⟨⟨0, 0, 0, 0, 0, ByteArray.empty⟩, ⟨0, 0, 0, 0, 0, ByteArray.empty⟩, ⟨27, 0, 4, 0, 0, ByteArray.empty⟩, ⟨0, 0, 0, 0, 0, ByteArray.empty⟩⟩, ⟨⟨0, 0, 0, 0, 0, ByteArray.empty⟩, ⟨0, 0, 0, 0, 0, ByteArray.empty⟩, ⟨0, 0, 0, 0, 0, ByteArray.empty⟩, ⟨0, 0, 0, 0, 0, ByteArray.empty⟩⟩, ⟨⟨23, 5, 0, 0, 4, ByteArray.empty⟩, ⟨0, 0, 0, 0, 0, ByteArray.empty⟩, ⟨0, 0, 0, 0, 0, ByteArray.empty⟩, ⟨0, 0, 0, 0, 0, ByteArray.empty⟩⟩, ⟨⟨0, 0, 0, 0, 0, ByteArray.empty⟩, ⟨0, 0, 0, 0, 0, ByteArray.empty⟩, ⟨24, 5, 5, 0, 0, ByteArray.empty⟩, ⟨0, 0, 0, 0, 0, ByteArray.empty⟩⟩, ⟨⟨0, 0, 0, 0, 0, ByteArray.empty⟩, ⟨0, 0, 0, 0, 0, ByteArray.empty⟩, ⟨0, 0, 0, 0, 0, ByteArray.empty⟩, ⟨0, 0, 0, 0, 0, ByteArray.empty⟩⟩, ⟨⟨0, 0, 0, 0, 0, ByteArray.empty⟩, ⟨0, 0, 0, 0, 0, ByteArray.empty⟩, ⟨0, 0, 0, 0, 0, ByteArray.empty⟩, ⟨0, 0, 0, 0, 0, ByteArray.empty⟩⟩, ⟨⟨0, 0, 0, 0, 0, ByteArray.empty⟩, ⟨0, 0, 0, 0, 0, ByteArray.empty⟩, ⟨24, 6, 5, 0, 0, ByteArray.empty⟩, ⟨0, 0, 0, 0, 0, ByteArray.empty⟩⟩, ⟨⟨0, 0, 0, 0, 0, ByteArray.empty⟩, ⟨0, 0, 0, 0, 0, ByteArray.empty⟩, ⟨0, 0, 0, 0, 0, ByteArray.empty⟩, ⟨0, 0, 0, 0, 0, ByteArray.empty⟩⟩, ⟨⟨0, 0, 0, 0, 0, ByteArray.empty⟩, ⟨0, 0, 0, 0, 0, ByteArray.empty⟩, ⟨0, 0, 0, 0, 0, ByteArray.empty⟩, ⟨0, 0, 0, 0, 0, ByteArray.empty⟩⟩, ⟨⟨0, 0, 0, 0, 0, ByteArray.empty⟩, ⟨0, 0, 0, 0, 0, ByteArray.empty⟩, ⟨27, 0, 6, 0, 0, ByteArray.empty⟩, ⟨0, 0, 0, 0, 0, ByteArray.empty⟩⟩, ⟨⟨33, 0, 0, 0, 0, ByteArray.empty⟩, ⟨0, 0, 0, 0, 0, ByteArray.empty⟩, ⟨0, 0, 0, 0, 0, ByteArray.empty⟩, ⟨0, 0, 0, 0, 0, ByteArray.empty⟩⟩], [5, 6, 7, 8, 2], 0⟩
def flx : T_Flat := ⟨[⟨23, 1, 0, 0, 0, ByteArray.empty⟩, ⟨23, 2, 0, 0, 4, ByteArray.empty⟩, ⟨24, 3, 1, 0, 0, ByteArray.empty⟩, ⟨22, 3, 3, 0, 1, ByteArray.empty⟩, ⟨25, 0, 1, 3, 0, ByteArray.empty⟩, ⟨24, 4, 1, 0, 0, ByteArray.empty⟩, ⟨27, 0, 4, 0, 0, ByteArray.empty⟩, ⟨22, 1, 1, 0, 1, ByteArray.empty⟩, ⟨22, 2, 2, 0, -1, ByteArray.empty⟩, ⟨30, 0, 2, 0, 2, ByteArray.empty⟩, ⟨23, 5, 0, 0, 4, ByteArray.empty⟩, ⟨24, 5, 5, 0, 0, ByteArray.empty⟩, ⟨24, 6, 5, 0, 0, ByteArray.empty⟩, ⟨27, 0, 6, 0, 0, ByteArray.empty⟩, ⟨33, 0, 0, 0, 0, ByteArray.empty⟩], [5, 6, 7, 8, 2], 0⟩
/-- A state that begins. -/
def st0 (data : List Int) (pc : Int) (xs : List Int) : T_State := ⟨List.replicate 16 0, cop (List.replicate 256 0) data, xs, 0, [], pc, [], 0, [], 0, 0⟩
theorem build_ok : r19_Build [⟨false, [tx]⟩] = some (imx, ⟨0, 0, 0⟩) := by kernel_rfl
theorem model_ok : r19_Model [⟨false, [tx]⟩] = some (flx, ⟨0, 0, 0⟩) := by kernel_rfl
theorem mayX : link_May imx = some true := by kernel_rfl
theorem mayF : image_May flx = some true := by kernel_rfl
theorem codeX : pipe_Code imx.Code = some true := by kernel_rfl
theorem progF : seq_Program flx.Code = some true := by kernel_rfl
theorem wakes_ok : l23_wakes = some true := by kernel_rfl
section
variable {xs : List Int} (h : xs.length ≤ 100)
include h
theorem h100 : decide (100 < (xs.length : Int)) = false := decide_eq_false (by omega)
theorem clone_ok : slices_Clone_uint32 xs = some xs := app'_le (by simp only [List.length_nil]; omega)
theorem words_ok : r0_CopyWords xs = some xs := loop_copied (by omega) fun _ _ => rfl
omit h in
theorem upto_ok : seq_upto (xs.length : Int) [0] = some true := by
  kernel_rfl
theorem new_ok : seq_New xs = some (⟨List.replicate 16 0, List.replicate 256 0, xs, 0, [], 0, [], 0, [], 0, 0⟩, 0) := by
  rw [seq_New, h100 h, clone_ok h]; kernel_rfl
theorem loaded_ok (data : List Int) (pc : Int) : image_loaded data pc xs = some (st0 data pc xs, 0) := by rw [image_loaded, new_ok h]; rfl
theorem loadX : image_Load imx xs = some (st0 imx.Data imx.Entry xs, 0) := by rw [image_Load, mayX, loaded_ok h]; rfl
theorem loadF : image_Flat flx xs = some (st0 flx.Data flx.Entry xs, 0) := by rw [image_Flat, mayF, loaded_ok h]; rfl
theorem coreX : seq_Core (st0 imx.Data imx.Entry xs) = some true := by
  unfold seq_Core
  rw [show (st0 imx.Data imx.Entry xs).In_ = xs from rfl, show (st0 imx.Data imx.Entry xs).Taken = 0 from rfl, h100 h, upto_ok]; kernel_rfl
theorem coreF : seq_Core (st0 flx.Data flx.Entry xs) = some true := by
  unfold seq_Core
  rw [show (st0 flx.Data flx.Entry xs).In_ = xs from rfl, show (st0 flx.Data flx.Entry xs).Taken = 0 from rfl, h100 h, upto_ok]; kernel_rfl
theorem pmayX : pipe_May (st0 imx.Data imx.Entry xs) = some true := by rw [pipe_May, coreX h]; kernel_rfl
theorem smayF : seq_May (st0 flx.Data flx.Entry xs) = some true := by rw [seq_May, coreF h]; kernel_rfl
theorem ownX : seq_Own (st0 imx.Data imx.Entry xs) = some (st0 imx.Data imx.Entry xs) := by
  unfold seq_Own
  rw [show (st0 imx.Data imx.Entry xs).In_ = xs from rfl, clone_ok h]; kernel_rfl
theorem ownF : seq_Own (st0 flx.Data flx.Entry xs) = some (st0 flx.Data flx.Entry xs) := by
  unfold seq_Own
  rw [show (st0 flx.Data flx.Entry xs).In_ = xs from rfl, clone_ok h]; kernel_rfl
theorem rnew_ok : r5_New xs = some (⟨List.replicate 16 0, List.replicate 256 0, xs, 0, [], 0, [], 0, [], 0, 0⟩) := by
  rw [r5_New, words_ok h]; kernel_rfl
theorem rloadX : r19_Load imx.Data imx.Entry xs = some (st0 imx.Data imx.Entry xs) := by rw [r19_Load, rnew_ok h]; kernel_rfl
theorem rloadF : r19_Load flx.Data flx.Entry xs = some (st0 flx.Data flx.Entry xs) := by rw [r19_Load, rnew_ok h]; kernel_rfl
theorem copyX : r0_CopyState (st0 imx.Data imx.Entry xs) = some (st0 imx.Data imx.Entry xs) := by
  unfold r0_CopyState
  rw [show (st0 imx.Data imx.Entry xs).In_ = xs from rfl, words_ok h]; kernel_rfl
theorem copyF : r0_CopyState (st0 flx.Data flx.Entry xs) = some (st0 flx.Data flx.Entry xs) := by
  unfold r0_CopyState
  rw [show (st0 flx.Data flx.Entry xs).In_ = xs from rfl, words_ok h]; kernel_rfl
theorem srun (n : Int) : seq_Run flx.Code (st0 flx.Data flx.Entry xs) n = (seq_upto 20000 ([n] : List Int)).bind fun r10 => bif !r10 then none else loop (seq_Run_b1 n flx.Code) (0, List.replicate 16 0, cop (List.replicate 256 0) flx.Data, xs, 0, [], flx.Entry, [], 0, [], 0, 0) := by
  rw [seq_Run, progF, smayF h, ownF h]; rfl
theorem prun (n : Int) : pipe_By_hazard_Go imx.Code (st0 imx.Data imx.Entry xs) n = bif decide (n < 0) then none else bif decide (20000 < n) then none else loop (pipe_By_hazard_Go_b1 n imx.Code) (0, List.replicate 16 0, cop (List.replicate 256 0) imx.Data, xs, 0, [], imx.Entry, [], 0, [], 0, 0) := by
  rw [pipe_By_hazard_Go, codeX, pmayX h, ownX h]; rfl
theorem rrun (n : Int) : r5_Run flx.Code (st0 flx.Data flx.Entry xs) n = loop (r5_Run_b1 n flx.Code) (0, List.replicate 16 0, cop (List.replicate 256 0) flx.Data, xs, 0, [], flx.Entry, [], 0, [], 0, 0) := by
  rw [r5_Run, copyF h]; rfl
theorem rcyc (n : Int) : r5_Cycles imx.Code (st0 imx.Data imx.Entry xs) n true = loop (r5_Cycles_b1 n true imx.Code) (0, List.replicate 16 0, cop (List.replicate 256 0) imx.Data, xs, 0, [], imx.Entry, [], 0, [], 0, 0) := by
  rw [r5_Cycles, copyX h]; rfl
theorem cmpR (n : Int) : r19_Compare imx flx n xs = (loop (r5_Run_b1 n flx.Code) (0, List.replicate 16 0, cop (List.replicate 256 0) flx.Data, xs, 0, [], flx.Entry, [], 0, [], 0, 0)).bind fun B0 => (loop (r5_Cycles_b1 (IntKind.i64.wrap ((IntKind.i64.wrap (4 * n)) + 8)) true imx.Code) (0, List.replicate 16 0, cop (List.replicate 256 0) imx.Data, xs, 0, [], imx.Entry, [], 0, [], 0, 0)).bind fun C0 => r19_Compare_k2 B0.1.Out B0.1.Stop B0.2 B0.1.Mem B0.1.Taken B0.1.Regs (C0.2, C0.1.Regs, C0.1.Mem, C0.1.In_, C0.1.Taken, C0.1.Out, C0.1.PC, C0.1.Stack, C0.1.Stop, C0.1.Fly, C0.1.Jump, C0.1.Delay) := by
  rw [r19_Compare, rloadF h, Option.bind_some, rrun h]
  cases loop (r5_Run_b1 n flx.Code) (0, List.replicate 16 0, cop (List.replicate 256 0) flx.Data, xs, 0, [], flx.Entry, [], 0, [], 0, 0) with
  | none => rfl
  | some B0 =>
    simp only [Option.bind_some, cut, r19_Compare_k1, rloadX h, rcyc h]
    cases loop (r5_Cycles_b1 (IntKind.i64.wrap ((IntKind.i64.wrap (4 * n)) + 8)) true imx.Code) (0, List.replicate 16 0, cop (List.replicate 256 0) imx.Data, xs, 0, [], imx.Entry, [], 0, [], 0, 0) with
    | none => rfl
    | some C0 => rfl

theorem p0 : bench_Compare imx flx 0 xs = some (⟨0, 8, 0, 0, true, true⟩, 0) := by
  rw [bench_Compare, loadX h, loadF h]
  simp only [Option.bind_some, hazard_Run, srun h, prun h]
  kernel_rfl
theorem q0 : r19_Compare imx flx 0 xs = some ⟨0, 8, 0, 0, true, true⟩ := by
  rw [cmpR h]
  kernel_rfl
theorem p1 : bench_Compare imx flx 1 xs = some (⟨1, 12, 0, 0, true, true⟩, 0) := by
  rw [bench_Compare, loadX h, loadF h]
  simp only [Option.bind_some, hazard_Run, srun h, prun h]
  kernel_rfl
theorem q1 : r19_Compare imx flx 1 xs = some ⟨1, 12, 0, 0, true, true⟩ := by
  rw [cmpR h]
  kernel_rfl
theorem p2 : bench_Compare imx flx 2 xs = some (⟨2, 16, 0, 0, true, true⟩, 0) := by
  rw [bench_Compare, loadX h, loadF h]
  simp only [Option.bind_some, hazard_Run, srun h, prun h]
  kernel_rfl
theorem q2 : r19_Compare imx flx 2 xs = some ⟨2, 16, 0, 0, true, true⟩ := by
  rw [cmpR h]
  kernel_rfl
theorem p3 : bench_Compare imx flx 3 xs = some (⟨3, 20, 0, 0, true, true⟩, 0) := by
  rw [bench_Compare, loadX h, loadF h]
  simp only [Option.bind_some, hazard_Run, srun h, prun h]
  kernel_rfl
theorem q3 : r19_Compare imx flx 3 xs = some ⟨3, 20, 0, 0, true, true⟩ := by
  rw [cmpR h]
  kernel_rfl
theorem p5 : bench_Compare imx flx 5 xs = some (⟨5, 28, 0, 0, true, true⟩, 0) := by
  rw [bench_Compare, loadX h, loadF h]
  simp only [Option.bind_some, hazard_Run, srun h, prun h]
  kernel_rfl
theorem q5 : r19_Compare imx flx 5 xs = some ⟨5, 28, 0, 0, true, true⟩ := by
  rw [cmpR h]
  kernel_rfl
theorem p7 : bench_Compare imx flx 7 xs = some (⟨7, 36, 0, 0, true, true⟩, 0) := by
  rw [bench_Compare, loadX h, loadF h]
  simp only [Option.bind_some, hazard_Run, srun h, prun h]
  kernel_rfl
theorem q7 : r19_Compare imx flx 7 xs = some ⟨7, 36, 0, 0, true, true⟩ := by
  rw [cmpR h]
  kernel_rfl
theorem p10 : bench_Compare imx flx 10 xs = some (⟨10, 48, 0, 0, true, true⟩, 0) := by
  rw [bench_Compare, loadX h, loadF h]
  simp only [Option.bind_some, hazard_Run, srun h, prun h]
  kernel_rfl
theorem q10 : r19_Compare imx flx 10 xs = some ⟨10, 48, 0, 0, true, true⟩ := by
  rw [cmpR h]
  kernel_rfl
theorem p14 : bench_Compare imx flx 14 xs = some (⟨14, 50, 0, 1, true, true⟩, 0) := by
  rw [bench_Compare, loadX h, loadF h]
  simp only [Option.bind_some, hazard_Run, srun h, prun h]
  kernel_rfl
theorem q14 : r19_Compare imx flx 14 xs = some ⟨14, 50, 0, 1, true, true⟩ := by
  rw [cmpR h]
  kernel_rfl
theorem p19 : bench_Compare imx flx 19 xs = some (⟨19, 50, 0, 1, true, true⟩, 0) := by
  rw [bench_Compare, loadX h, loadF h]
  simp only [Option.bind_some, hazard_Run, srun h, prun h]
  kernel_rfl
theorem q19 : r19_Compare imx flx 19 xs = some ⟨19, 50, 0, 1, true, true⟩ := by
  rw [cmpR h]
  kernel_rfl
theorem p26 : bench_Compare imx flx 26 xs = some (⟨26, 50, 0, 1, true, true⟩, 0) := by
  rw [bench_Compare, loadX h, loadF h]
  simp only [Option.bind_some, hazard_Run, srun h, prun h]
  kernel_rfl
theorem q26 : r19_Compare imx flx 26 xs = some ⟨26, 50, 0, 1, true, true⟩ := by
  rw [cmpR h]
  kernel_rfl
theorem p35 : bench_Compare imx flx 35 xs = some (⟨35, 50, 0, 1, true, true⟩, 0) := by
  rw [bench_Compare, loadX h, loadF h]
  simp only [Option.bind_some, hazard_Run, srun h, prun h]
  kernel_rfl
theorem q35 : r19_Compare imx flx 35 xs = some ⟨35, 50, 0, 1, true, true⟩ := by
  rw [cmpR h]
  kernel_rfl
theorem p47 : bench_Compare imx flx 47 xs = some (⟨39, 50, 1, 1, true, true⟩, 0) := by
  rw [bench_Compare, loadX h, loadF h]
  simp only [Option.bind_some, hazard_Run, srun h, prun h]
  kernel_rfl
theorem q47 : r19_Compare imx flx 47 xs = some ⟨39, 50, 1, 1, true, true⟩ := by
  rw [cmpR h]
  kernel_rfl
theorem p63 : bench_Compare imx flx 63 xs = some (⟨39, 50, 1, 1, true, true⟩, 0) := by
  rw [bench_Compare, loadX h, loadF h]
  simp only [Option.bind_some, hazard_Run, srun h, prun h]
  kernel_rfl
theorem q63 : r19_Compare imx flx 63 xs = some ⟨39, 50, 1, 1, true, true⟩ := by
  rw [cmpR h]
  kernel_rfl
theorem p85 : bench_Compare imx flx 85 xs = some (⟨39, 50, 1, 1, true, true⟩, 0) := by
  rw [bench_Compare, loadX h, loadF h]
  simp only [Option.bind_some, hazard_Run, srun h, prun h]
  kernel_rfl
theorem q85 : r19_Compare imx flx 85 xs = some ⟨39, 50, 1, 1, true, true⟩ := by
  rw [cmpR h]
  kernel_rfl
theorem p114 : bench_Compare imx flx 114 xs = some (⟨39, 50, 1, 1, true, true⟩, 0) := by
  rw [bench_Compare, loadX h, loadF h]
  simp only [Option.bind_some, hazard_Run, srun h, prun h]
  kernel_rfl
theorem q114 : r19_Compare imx flx 114 xs = some ⟨39, 50, 1, 1, true, true⟩ := by
  rw [cmpR h]
  kernel_rfl
theorem p153 : bench_Compare imx flx 153 xs = some (⟨39, 50, 1, 1, true, true⟩, 0) := by
  rw [bench_Compare, loadX h, loadF h]
  simp only [Option.bind_some, hazard_Run, srun h, prun h]
  kernel_rfl
theorem q153 : r19_Compare imx flx 153 xs = some ⟨39, 50, 1, 1, true, true⟩ := by
  rw [cmpR h]
  kernel_rfl
theorem alike_ok : l23_alike (ByteArray.mk #[109, 97, 105, 110, 58, 32, 108, 105, 32, 114, 49, 44, 32, 116, 10, 108, 105, 32, 114, 50, 44, 32, 52, 10, 108, 111, 111, 112, 58, 32, 108, 100, 32, 114, 51, 44, 32, 114, 49, 44, 32, 48, 10, 97, 100, 100, 105, 32, 114, 51, 44, 32, 114, 51, 44, 32, 49, 10, 115, 116, 32, 114, 51, 44, 32, 114, 49, 44, 32, 48, 10, 108, 100, 32, 114, 52, 44, 32, 114, 49, 44, 32, 48, 10, 111, 117, 116, 32, 114, 52, 10, 97, 100, 100, 105, 32, 114, 49, 44, 32, 114, 49, 44, 32, 49, 10, 97, 100, 100, 105, 32, 114, 50, 44, 32, 114, 50, 44, 32, 45, 49, 10, 98, 110, 122, 32, 114, 50, 44, 32, 108, 111, 111, 112, 10, 108, 105, 32, 114, 53, 44, 32, 112, 10, 108, 100, 32, 114, 53, 44, 32, 114, 53, 44, 32, 48, 10, 108, 100, 32, 114, 54, 44, 32, 114, 53, 44, 32, 48, 10, 111, 117, 116, 32, 114, 54, 10, 104, 97, 108, 116, 10, 46, 100, 97, 116, 97, 10, 116, 58, 32, 46, 119, 111, 114, 100, 32, 53, 44, 32, 54, 44, 32, 55, 44, 32, 56, 10, 112, 58, 32, 46, 119, 111, 114, 100, 32, 116, 43, 50]) xs = some true := by
  rw [l23_alike, show cat' (ByteArray.mk #[46, 103, 108, 111, 98, 97, 108, 32, 109, 97, 105, 110, 10]) (ByteArray.mk #[109, 97, 105, 110, 58, 32, 108, 105, 32, 114, 49, 44, 32, 116, 10, 108, 105, 32, 114, 50, 44, 32, 52, 10, 108, 111, 111, 112, 58, 32, 108, 100, 32, 114, 51, 44, 32, 114, 49, 44, 32, 48, 10, 97, 100, 100, 105, 32, 114, 51, 44, 32, 114, 51, 44, 32, 49, 10, 115, 116, 32, 114, 51, 44, 32, 114, 49, 44, 32, 48, 10, 108, 100, 32, 114, 52, 44, 32, 114, 49, 44, 32, 48, 10, 111, 117, 116, 32, 114, 52, 10, 97, 100, 100, 105, 32, 114, 49, 44, 32, 114, 49, 44, 32, 49, 10, 97, 100, 100, 105, 32, 114, 50, 44, 32, 114, 50, 44, 32, 45, 49, 10, 98, 110, 122, 32, 114, 50, 44, 32, 108, 111, 111, 112, 10, 108, 105, 32, 114, 53, 44, 32, 112, 10, 108, 100, 32, 114, 53, 44, 32, 114, 53, 44, 32, 48, 10, 108, 100, 32, 114, 54, 44, 32, 114, 53, 44, 32, 48, 10, 111, 117, 116, 32, 114, 54, 10, 104, 97, 108, 116, 10, 46, 100, 97, 116, 97, 10, 116, 58, 32, 46, 119, 111, 114, 100, 32, 53, 44, 32, 54, 44, 32, 55, 44, 32, 56, 10, 112, 58, 32, 46, 119, 111, 114, 100, 32, 116, 43, 50]) = some tx by kernel_rfl, Option.bind_some, build_ok, Option.bind_some, model_ok, Option.bind_some]
  change loop (l23_alike_b1 (imx, ⟨0, 0, 0⟩) (flx, ⟨0, 0, 0⟩) xs) 0 = some true
  rw [loop_next (show l23_alike_b1 (imx, ⟨0, 0, 0⟩) (flx, ⟨0, 0, 0⟩) xs 0 = some (.next 1) by rw [l23_alike_b1, p0 h, q0 h]; rfl)]
  rw [loop_next (show l23_alike_b1 (imx, ⟨0, 0, 0⟩) (flx, ⟨0, 0, 0⟩) xs 1 = some (.next 2) by rw [l23_alike_b1, p1 h, q1 h]; rfl)]
  rw [loop_next (show l23_alike_b1 (imx, ⟨0, 0, 0⟩) (flx, ⟨0, 0, 0⟩) xs 2 = some (.next 3) by rw [l23_alike_b1, p2 h, q2 h]; rfl)]
  rw [loop_next (show l23_alike_b1 (imx, ⟨0, 0, 0⟩) (flx, ⟨0, 0, 0⟩) xs 3 = some (.next 5) by rw [l23_alike_b1, p3 h, q3 h]; rfl)]
  rw [loop_next (show l23_alike_b1 (imx, ⟨0, 0, 0⟩) (flx, ⟨0, 0, 0⟩) xs 5 = some (.next 7) by rw [l23_alike_b1, p5 h, q5 h]; rfl)]
  rw [loop_next (show l23_alike_b1 (imx, ⟨0, 0, 0⟩) (flx, ⟨0, 0, 0⟩) xs 7 = some (.next 10) by rw [l23_alike_b1, p7 h, q7 h]; rfl)]
  rw [loop_next (show l23_alike_b1 (imx, ⟨0, 0, 0⟩) (flx, ⟨0, 0, 0⟩) xs 10 = some (.next 14) by rw [l23_alike_b1, p10 h, q10 h]; rfl)]
  rw [loop_next (show l23_alike_b1 (imx, ⟨0, 0, 0⟩) (flx, ⟨0, 0, 0⟩) xs 14 = some (.next 19) by rw [l23_alike_b1, p14 h, q14 h]; rfl)]
  rw [loop_next (show l23_alike_b1 (imx, ⟨0, 0, 0⟩) (flx, ⟨0, 0, 0⟩) xs 19 = some (.next 26) by rw [l23_alike_b1, p19 h, q19 h]; rfl)]
  rw [loop_next (show l23_alike_b1 (imx, ⟨0, 0, 0⟩) (flx, ⟨0, 0, 0⟩) xs 26 = some (.next 35) by rw [l23_alike_b1, p26 h, q26 h]; rfl)]
  rw [loop_next (show l23_alike_b1 (imx, ⟨0, 0, 0⟩) (flx, ⟨0, 0, 0⟩) xs 35 = some (.next 47) by rw [l23_alike_b1, p35 h, q35 h]; rfl)]
  rw [loop_next (show l23_alike_b1 (imx, ⟨0, 0, 0⟩) (flx, ⟨0, 0, 0⟩) xs 47 = some (.next 63) by rw [l23_alike_b1, p47 h, q47 h]; rfl)]
  rw [loop_next (show l23_alike_b1 (imx, ⟨0, 0, 0⟩) (flx, ⟨0, 0, 0⟩) xs 63 = some (.next 85) by rw [l23_alike_b1, p63 h, q63 h]; rfl)]
  rw [loop_next (show l23_alike_b1 (imx, ⟨0, 0, 0⟩) (flx, ⟨0, 0, 0⟩) xs 85 = some (.next 114) by rw [l23_alike_b1, p85 h, q85 h]; rfl)]
  rw [loop_next (show l23_alike_b1 (imx, ⟨0, 0, 0⟩) (flx, ⟨0, 0, 0⟩) xs 114 = some (.next 153) by rw [l23_alike_b1, p114 h, q114 h]; rfl)]
  rw [loop_next (show l23_alike_b1 (imx, ⟨0, 0, 0⟩) (flx, ⟨0, 0, 0⟩) xs 153 = some (.next 205) by rw [l23_alike_b1, p153 h, q153 h]; rfl)]
  exact loop_done (by rw [l23_alike_b1, wakes_ok]; rfl)
end
def sev : List (List Int) := [[], [3, 4, 0], [5, 1, 2, 0, 7, 7, 0], [1, 0, 0], [4294967295, 2147483648, 1], [250, 9, 9, 9], [65538, 2147450880, 5]]
theorem pure_BenchMemory (x : T_Ask) (hx : Wf_Ask x) : l23_BenchMemory x = some true := by
  have key : ∀ l : List (List Int), (∀ z ∈ l, z.length ≤ 100) → ∀ n : Nat, n + l.length ≤ 100 → ∀ p : List (List Int), p.length = n → loop (l23_BenchMemory_b1 (p ++ l)) (n : Int) = some true := by
    intro l
    induction l with
    | nil =>
      intro _ n hn p hp
      refine loop_done ?_
      rw [l23_BenchMemory_b1, List.append_nil, hp, wakes_ok]
      simp
    | cons z l ih =>
      intro hl n hn p hp
      have a : at' (p ++ z :: l) (n : Int) = some z := by
        rw [at'_nat (by simp only [List.length_append, List.length_cons]; omega)]
        subst hp
        simp
      have b : l23_BenchMemory_b1 (p ++ z :: l) (n : Int) = some (.next ((n + 1 : Nat) : Int)) := by
        have c : decide ((n : Int) < ((p ++ z :: l).length : Int)) = true := decide_eq_true (by simp only [List.length_append, List.length_cons]; omega)
        rw [l23_BenchMemory_b1, c, a]
        simp only [cond_true, Option.bind_some, alike_ok (hl z List.mem_cons_self), Bool.not_true, cond_false]
        rw [wrap_nat (by simp only [List.length_cons] at hn; omega)]
      rw [loop_next b, show p ++ z :: l = (p ++ [z]) ++ l by simp]
      exact ih (fun z hz => hl z (List.mem_cons_of_mem _ hz)) (n + 1) (by simp only [List.length_cons] at hn; omega) (p ++ [z]) (by simp [hp])
  have h7 : ∀ z ∈ sev, z.length ≤ 100 := by decide
  rw [l23_BenchMemory]
  by_cases h : x.In_.length ≤ 100
  · have e : l23_ins x = some (sev ++ [x.In_]) := by
      rw [l23_ins, decide_eq_true (show (x.In_.length : Int) ≤ 100 by omega)]; rfl
    rw [e, Option.bind_some]
    exact key (sev ++ [x.In_]) (fun z hz => by
      rcases List.mem_append.1 hz with hz | hz
      · exact h7 z hz
      · rw [List.mem_singleton] at hz; subst hz; exact h) 0 (by simp [sev]) [] rfl
  · have e : l23_ins x = some sev := by
      rw [l23_ins, decide_eq_false (show ¬ (x.In_.length : Int) ≤ 100 by omega)]; rfl
    rw [e, Option.bind_some]
    exact key sev h7 0 (by decide) [] rfl
end Go.Proofs.YtkhniclfnhgobaaGreatDoor
