/- The law PipeJumps, as a plain statement: proved. -/
import Derived.Test.YthbpicnbkdbbmaaGreatLPipeJumps
import Derived.Test.YthbpicnbkdbbmaaGreatPiG
namespace Go.Proofs.YthbpicnbkdbbmaaGreat
open Go Go.RowKit Fr
set_option linter.unusedVariables false
set_option linter.unusedSimpArgs false
set_option maxRecDepth 20000
theorem pure_PipeJumps (x : T_Script) (hx : Wf_Script x) : l6_PipeJumps x = some true := by
  obtain ⟨k, hk, hm⟩ := modN x.N.length (k := 2) (by decide)
  have hm' : rem' (x.N.length : Int) 2 = some (k : Int) := hm
  have a28 : l6_at ⟨28, 0, 0, 0, 5, ByteArray.empty⟩ = some ⟨⟨28, 0, 0, 0, 5, ByteArray.empty⟩, z0, z0, z0⟩ := at0 (l := []) rfl
  have a29 : l6_at ⟨29, 0, 0, 0, 5, ByteArray.empty⟩ = some ⟨⟨29, 0, 0, 0, 5, ByteArray.empty⟩, z0, z0, z0⟩ := at0 (l := []) rfl
  have a30 : l6_at ⟨30, 0, 0, 0, 5, ByteArray.empty⟩ = some ⟨⟨30, 0, 0, 0, 5, ByteArray.empty⟩, z0, z0, z0⟩ := at0 (l := []) rfl
  have aad : l6_at (l6_adds 22 1) = some ⟨⟨22, 1, 1, 0, 1, ByteArray.empty⟩, z0, z0, z0⟩ := at0 (l := [1]) rfl
  have aou : l6_at ⟨27, 0, 1, 0, 0, ByteArray.empty⟩ = some ⟨z0, z0, ⟨27, 0, 1, 0, 0, ByteArray.empty⟩, z0⟩ := at2 (l := []) rfl
  have aha : l6_at ⟨33, 0, 0, 0, 0, ByteArray.empty⟩ = some ⟨⟨33, 0, 0, 0, 0, ByteArray.empty⟩, z0, z0, z0⟩ := at0 (l := []) rfl
  have r0 : rem' 0 3 = some 0 := rfl
  have r1 : rem' 1 3 = some 1 := rfl
  have r2 : rem' 2 3 = some 2 := rfl
  have r3 : rem' 3 3 = some 0 := rfl
  have r4 : rem' 4 3 = some 1 := rfl
  have r5 : rem' 5 3 = some 2 := rfl
  have p0 : at' ([28, 29, 30] : List Int) 0 = some 28 := rfl
  have p1 : at' ([28, 29, 30] : List Int) 1 = some 29 := rfl
  have p2 : at' ([28, 29, 30] : List Int) 2 = some 30 := rfl
  have w1 : IntKind.i64.wrap (1 + ((0 : Nat) : Int)) = 1 := by decide
  have w2 : IntKind.i64.wrap (1 + ((1 : Nat) : Int)) = 2 := by decide
  have t1 : ∀ b0 b1 b2 b3 b4 b5 b6 : A4 T_Ins, at' [b0, b1, b2, b3, b4, b5, b6] 1 = some b1 := fun _ _ _ _ _ _ _ => rfl
  have t2 : ∀ b0 b1 b2 b3 b4 b5 b6 : A4 T_Ins, at' [b0, b1, b2, b3, b4, b5, b6] 2 = some b2 := fun _ _ _ _ _ _ _ => rfl
  have u1 : ∀ b0 b1 b2 b3 b4 b5 b6 z : A4 T_Ins, set' [b0, b1, b2, b3, b4, b5, b6] 1 z = some [b0, z, b2, b3, b4, b5, b6] := fun _ _ _ _ _ _ _ _ => rfl
  have u2 : ∀ b0 b1 b2 b3 b4 b5 b6 z : A4 T_Ins, set' [b0, b1, b2, b3, b4, b5, b6] 2 z = some [b0, b1, z, b3, b4, b5, b6] := fun _ _ _ _ _ _ _ _ => rfl
  refine loop_count 6 (fun i hi => ?_) ?_
  · have hk2 : k = 0 ∨ k = 1 := by omega
    rcases (show i = 0 ∨ i = 1 ∨ i = 2 ∨ i = 3 ∨ i = 4 ∨ i = 5 by omega) with rfl | rfl | rfl | rfl | rfl | rfl
    · rw [l6_PipeJumps_b1, show ((0 : Nat) : Int) = 0 from rfl, show decide ((0 : Int) < 6) = true from rfl, cond_true, r0, Option.bind_some, p0, Option.bind_some, a28, Option.bind_some, aad, Option.bind_some, Option.bind_some, Option.bind_some, Option.bind_some, aou, Option.bind_some, aha, Option.bind_some, show decide ((2 : Int) < 0) = false from rfl, cond_false]
      exact run_then (goodC_of (by kernel_rfl)) (by simp) (by simp) rfl rfl
    · rw [l6_PipeJumps_b1, show ((1 : Nat) : Int) = 1 from rfl, show decide ((1 : Int) < 6) = true from rfl, cond_true, r1, Option.bind_some, p1, Option.bind_some, a29, Option.bind_some, aad, Option.bind_some, Option.bind_some, Option.bind_some, Option.bind_some, aou, Option.bind_some, aha, Option.bind_some, show decide ((2 : Int) < 1) = false from rfl, cond_false]
      exact run_then (goodC_of (by kernel_rfl)) (by simp) (by simp) rfl rfl
    · rw [l6_PipeJumps_b1, show ((2 : Nat) : Int) = 2 from rfl, show decide ((2 : Int) < 6) = true from rfl, cond_true, r2, Option.bind_some, p2, Option.bind_some, a30, Option.bind_some, aad, Option.bind_some, Option.bind_some, Option.bind_some, Option.bind_some, aou, Option.bind_some, aha, Option.bind_some, show decide ((2 : Int) < 2) = false from rfl, cond_false]
      exact run_then (goodC_of (by kernel_rfl)) (by simp) (by simp) rfl rfl
    · rw [l6_PipeJumps_b1, show ((3 : Nat) : Int) = 3 from rfl, show decide ((3 : Int) < 6) = true from rfl, cond_true, r3, Option.bind_some, p0, Option.bind_some, a28, Option.bind_some, aad, Option.bind_some, Option.bind_some, Option.bind_some, Option.bind_some, aou, Option.bind_some, aha, Option.bind_some, show decide ((2 : Int) < 3) = true from rfl, cond_true, hm', Option.bind_some]
      rcases hk2 with rfl | rfl
      · rw [w1, t1, Option.bind_some, u1, Option.bind_some]
        exact run_then (goodC_of (by kernel_rfl)) (by simp) (by simp) rfl rfl
      · rw [w2, t2, Option.bind_some, u2, Option.bind_some]
        exact run_then (goodC_of (by kernel_rfl)) (by simp) (by simp) rfl rfl
    · rw [l6_PipeJumps_b1, show ((4 : Nat) : Int) = 4 from rfl, show decide ((4 : Int) < 6) = true from rfl, cond_true, r4, Option.bind_some, p1, Option.bind_some, a29, Option.bind_some, aad, Option.bind_some, Option.bind_some, Option.bind_some, Option.bind_some, aou, Option.bind_some, aha, Option.bind_some, show decide ((2 : Int) < 4) = true from rfl, cond_true, hm', Option.bind_some]
      rcases hk2 with rfl | rfl
      · rw [w1, t1, Option.bind_some, u1, Option.bind_some]
        exact run_then (goodC_of (by kernel_rfl)) (by simp) (by simp) rfl rfl
      · rw [w2, t2, Option.bind_some, u2, Option.bind_some]
        exact run_then (goodC_of (by kernel_rfl)) (by simp) (by simp) rfl rfl
    · rw [l6_PipeJumps_b1, show ((5 : Nat) : Int) = 5 from rfl, show decide ((5 : Int) < 6) = true from rfl, cond_true, r5, Option.bind_some, p2, Option.bind_some, a30, Option.bind_some, aad, Option.bind_some, Option.bind_some, Option.bind_some, Option.bind_some, aou, Option.bind_some, aha, Option.bind_some, show decide ((2 : Int) < 5) = true from rfl, cond_true, hm', Option.bind_some]
      rcases hk2 with rfl | rfl
      · rw [w1, t1, Option.bind_some, u1, Option.bind_some]
        exact run_then (goodC_of (by kernel_rfl)) (by simp) (by simp) rfl rfl
      · rw [w2, t2, Option.bind_some, u2, Option.bind_some]
        exact run_then (goodC_of (by kernel_rfl)) (by simp) (by simp) rfl rfl
  · simp [l6_PipeJumps_b1, wakes]
end Go.Proofs.YthbpicnbkdbbmaaGreat
