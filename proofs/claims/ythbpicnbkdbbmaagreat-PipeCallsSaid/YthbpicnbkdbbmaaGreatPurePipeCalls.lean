/- The law PipeCalls, as a plain statement: proved. -/
import Derived.Test.YthbpicnbkdbbmaaGreatLPipeCalls
import Derived.Test.YthbpicnbkdbbmaaGreatPiG
namespace Go.Proofs.YthbpicnbkdbbmaaGreat
open Go Go.RowKit Fr
set_option linter.unusedVariables false
set_option linter.unusedSimpArgs false
set_option maxRecDepth 20000
theorem pure_PipeCalls (x : T_Script) (hx : Wf_Script x) : l6_PipeCalls x = some true := by
  obtain ⟨k, hk, hm⟩ := modN x.N.length (k := 3) (by decide)
  have hm' : rem' (x.N.length : Int) 3 = some (k : Int) := hm
  have a31 : l6_at ⟨31, 0, 0, 0, 6, ByteArray.empty⟩ = some ⟨⟨31, 0, 0, 0, 6, ByteArray.empty⟩, z0, z0, z0⟩ := at0 (l := []) rfl
  have a310 : l6_at ⟨31, 0, 0, 0, 0, ByteArray.empty⟩ = some ⟨⟨31, 0, 0, 0, 0, ByteArray.empty⟩, z0, z0, z0⟩ := at0 (l := []) rfl
  have aad : l6_at (l6_adds 22 (IntKind.i64.wrap (1 + (k : Int)))) = some ⟨⟨22, 1, 1, 0, IntKind.i64.wrap (1 + (k : Int)), ByteArray.empty⟩, z0, z0, z0⟩ := at0 (l := [1]) rfl
  have aou : l6_at ⟨27, 0, 1, 0, 0, ByteArray.empty⟩ = some ⟨z0, z0, ⟨27, 0, 1, 0, 0, ByteArray.empty⟩, z0⟩ := at2 (l := []) rfl
  have aha : l6_at ⟨33, 0, 0, 0, 0, ByteArray.empty⟩ = some ⟨⟨33, 0, 0, 0, 0, ByteArray.empty⟩, z0, z0, z0⟩ := at0 (l := []) rfl
  have are : l6_at ⟨32, 0, 0, 0, 0, ByteArray.empty⟩ = some ⟨⟨32, 0, 0, 0, 0, ByteArray.empty⟩, z0, z0, z0⟩ := at0 (l := []) rfl
  have hsub : ∀ zs : List (A4 T_Ins), 7 ≤ zs.length → sub' zs 7 (zs.length : Int) = some (zs.drop 7) := fun zs h => by
    simp only [sub']
    rw [if_pos ⟨by decide, by omega, by omega⟩]
    simp
  have hb : GoodB ⟨⟨22, 1, 1, 0, IntKind.i64.wrap (1 + (k : Int)), ByteArray.empty⟩, z0, z0, z0⟩ := goodBB_of (all_range (p := fun k : Nat => goodBB ⟨⟨22, 1, 1, 0, IntKind.i64.wrap (1 + (k : Int)), ByteArray.empty⟩, z0, z0, z0⟩) (by kernel_rfl) hk)
  simp only [l6_PipeCalls]
  rw [hm', Option.bind_some, a31, Option.bind_some, aad, Option.bind_some, aou, Option.bind_some, aha, Option.bind_some, Option.bind_some, are, Option.bind_some, Option.bind_some, Option.bind_some, a310, Option.bind_some]
  refine run_then ?_ (by simp) (by simp) rfl ?_
  · exact goodC_cons (goodBB_of (by kernel_rfl)) (goodC_cons hb (goodC_cons (goodBB_of (by kernel_rfl)) (goodC_cons (goodBB_of (by kernel_rfl)) (goodC_cons (goodBB_of (by kernel_rfl)) (goodC_cons (goodBB_of (by kernel_rfl)) (goodC_cons hb (goodC_cons (goodBB_of (by kernel_rfl)) (goodC_cons (goodBB_of (by kernel_rfl)) (goodC_cons hb goodC_nil)))))))))
  simp only [cond_true]
  refine run_then ?_ (by simp) (by simp) rfl ?_
  · exact goodC_cons hb (goodC_of (by kernel_rfl))
  simp only [cond_true]
  rw [hsub _ (by simp)]
  simp only [Option.bind_some, List.drop_succ_cons, List.drop_zero]
  refine run_then ?_ (by simp) (by simp) rfl rfl
  exact goodC_cons (goodBB_of (by kernel_rfl)) (goodC_cons (goodBB_of (by kernel_rfl)) (goodC_cons hb goodC_nil))
end Go.Proofs.YthbpicnbkdbbmaaGreat
