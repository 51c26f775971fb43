/- The law PipeStops, as a plain statement: proved. -/
import Derived.Test.YthbpicnbkdbbmaaGreatLPipeStops
import Derived.Test.YthbpicnbkdbbmaaGreatPiG
namespace Go.Proofs.YthbpicnbkdbbmaaGreat
open Go Go.RowKit Fr
set_option linter.unusedVariables false
set_option linter.unusedSimpArgs false
set_option maxRecDepth 20000
theorem pure_PipeStops (x : T_Script) (hx : Wf_Script x) : l6_PipeStops x = some true := by
  obtain ⟨k, hk, hm⟩ := modN x.N.length (k := 100) (by decide)
  have hm' : rem' (x.N.length : Int) 100 = some (k : Int) := hm
  have hb : GoodB ⟨⟨23, 1, 0, 0, IntKind.i64.wrap (4 + (k : Int)), ByteArray.empty⟩, z0, z0, ⟨14, 2, 0, 0, 0, ByteArray.empty⟩⟩ := goodBB_of (all_range (p := fun k : Nat => goodBB ⟨⟨23, 1, 0, 0, IntKind.i64.wrap (4 + (k : Int)), ByteArray.empty⟩, z0, z0, ⟨14, 2, 0, 0, 0, ByteArray.empty⟩⟩) (by kernel_rfl) hk)
  refine loop_count 8 (fun i hi => ?_) ?_
  · rcases (show i = 0 ∨ i = 1 ∨ i = 2 ∨ i = 3 ∨ i = 4 ∨ i = 5 ∨ i = 6 ∨ i = 7 by omega) with rfl | rfl | rfl | rfl | rfl | rfl | rfl | rfl <;>
      (simp [l6_PipeStops_b1, cut, l6_PipeStops_k2, hm']
       refine run_then ?_ ?_ ?_ ?_ ?_
       · exact goodC_cons hb (goodC_of (by kernel_rfl))
       · simp
       · simp
       · rfl
       · rfl)
  · simp [l6_PipeStops_b1, wakes]
end Go.Proofs.YthbpicnbkdbbmaaGreat
