/- The law PipeHalts, as a plain statement: proved. -/
import Derived.Test.YthbpicnbkdbbmaaGreatLPipeHalts
import Derived.Test.YthbpicnbkdbbmaaGreatPiG
namespace Go.Proofs.YthbpicnbkdbbmaaGreat
open Go Go.RowKit Fr
set_option linter.unusedVariables false
set_option linter.unusedSimpArgs false
set_option maxRecDepth 20000
theorem pure_PipeHalts (x : T_Script) (hx : Wf_Script x) : l6_PipeHalts x = some true := by
  obtain ⟨k, hk, hm⟩ := modN x.N.length (k := 100) (by decide)
  have hm' : rem' (x.N.length : Int) 100 = some (k : Int) := hm
  have hb : GoodB ⟨⟨23, 1, 0, 0, IntKind.i64.wrap (7 + (k : Int)), ByteArray.empty⟩, z0, z0, z0⟩ := goodBB_of (all_range (p := fun k : Nat => goodBB ⟨⟨23, 1, 0, 0, IntKind.i64.wrap (7 + (k : Int)), ByteArray.empty⟩, z0, z0, z0⟩) (by kernel_rfl) hk)
  have r0 : rem' 0 2 = some 0 := rfl
  have r1 : rem' 1 2 = some 1 := rfl
  have r2 : rem' 2 2 = some 0 := rfl
  have r3 : rem' 3 2 = some 1 := rfl
  have q0 : quo' .i64 0 2 = some 0 := by decide
  have q1 : quo' .i64 1 2 = some 0 := by decide
  have q2 : quo' .i64 2 2 = some 1 := by decide
  have q3 : quo' .i64 3 2 = some 1 := by decide
  refine loop_count 4 (fun i hi => ?_) ?_
  · rcases (show i = 0 ∨ i = 1 ∨ i = 2 ∨ i = 3 by omega) with rfl | rfl | rfl | rfl
    all_goals
      simp only [l6_PipeHalts_b1, show ((0 : Nat) : Int) = 0 from rfl, show ((1 : Nat) : Int) = 1 from rfl, show ((2 : Nat) : Int) = 2 from rfl, show ((3 : Nat) : Int) = 3 from rfl, show decide ((0 : Int) < 4) = true from rfl, show decide ((1 : Int) < 4) = true from rfl, show decide ((2 : Int) < 4) = true from rfl, show decide ((3 : Int) < 4) = true from rfl, cond_true, r0, r1, r2, r3, q0, q1, q2, q3, hm', Option.bind_some]
      rw [sub_end (by decide) (by simp)]
      simp only [Option.bind_some]
      refine run_then ?_ ?_ ?_ ?_ ?_
      · simp only [Int.toNat_zero, Int.toNat_one, List.drop_zero, List.drop_succ_cons]
        first
          | exact goodC_cons (goodBB_of (by kernel_rfl)) (goodC_cons (goodBB_of (by kernel_rfl)) (goodC_cons hb (goodC_of (by kernel_rfl))))
          | exact goodC_cons (goodBB_of (by kernel_rfl)) (goodC_cons hb (goodC_of (by kernel_rfl)))
      · simp
      · simp
      · rfl
      · rfl
  · simp [l6_PipeHalts_b1, wakes]
end Go.Proofs.YthbpicnbkdbbmaaGreat
