/- The law SeqCalls, as a plain statement: proved. -/
import Derived.Test.YtadajdcbeegabaaLSeqCalls
import Derived.Test.YtadajdcbeegabaaStG
namespace Go.Proofs.Ytadajdcbeegabaa
open Go Go.RowKit Fr
set_option linter.unusedVariables false
set_option linter.unusedSimpArgs false
set_option maxRecDepth 20000
theorem pure_SeqCalls (x : T_Script) (hx : Wf_Script x) : l5_SeqCalls x = some true := by
  have hk0 := Int.emod_nonneg (x.N.length : Int) (show (3 : Int) ≠ 0 by decide)
  have hk1 := Int.emod_lt_of_pos (x.N.length : Int) (show (0 : Int) < 3 by decide)
  simp only [l5_SeqCalls, remN (by decide : (0 : Int) < 3), Option.bind_some]
  generalize (x.N.length : Int) % 3 = k at hk0 hk1
  rw [wrap_i64 (n := 1 + k) (by omega) (by omega)]
  have hg : Good ([(⟨31, 0, 0, 0, 3, ByteArray.empty⟩ : T_Ins), (⟨27, 0, 1, 0, 0, ByteArray.empty⟩ : T_Ins), (⟨33, 0, 0, 0, 0, ByteArray.empty⟩ : T_Ins), (⟨22, 1, 1, 0, 1 + k, ByteArray.empty⟩ : T_Ins), (⟨32, 0, 0, 0, 0, ByteArray.empty⟩ : T_Ins)] : List T_Ins) := by
    rcases (show k = 0 ∨ k = 1 ∨ k = 2 by omega) with rfl | rfl | rfl <;> (repeat (first | exact good_nil | refine good_cons (wf_code (by decide) (by decide) (by decide) (by decide) (by decide)) (by decide) ?_))
  have hap : ∀ zs : List T_Ins, zs.length ≤ 100 → app' zs zs = some (zs ++ zs) := fun zs h => app'_le (by omega)
  have hsub : ∀ zs : List T_Ins, 3 ≤ zs.length → sub' zs 3 (zs.length : Int) = some (zs.drop 3) := fun zs h => by
    simp only [sub']
    rw [if_pos ⟨by decide, by omega, by omega⟩]
    simp
  have hd : ∀ zs : List T_Ins, Good zs → Good ((zs ++ zs).drop 3) := fun zs h z hz => good_app h h z (List.mem_of_mem_drop hz)
  rw [runs_good hx hg (by simp), hap _ (by simp)]
  simp only [Option.bind_some, cond_true]
  rw [runs_good hx (p := [(⟨22, 1, 1, 0, 1, ByteArray.empty⟩ : T_Ins), (⟨31, 0, 0, 0, 0, ByteArray.empty⟩ : T_Ins)]) (by repeat (first | exact good_nil | refine good_cons (wf_code (by decide) (by decide) (by decide) (by decide) (by decide)) (by decide) ?_)) (by simp)]
  simp only [Option.bind_some, cond_true]
  rw [runs_good hx (p := [(⟨32, 0, 0, 0, 0, ByteArray.empty⟩ : T_Ins)]) (by repeat (first | exact good_nil | refine good_cons (wf_code (by decide) (by decide) (by decide) (by decide) (by decide)) (by decide) ?_)) (by simp)]
  simp only [Option.bind_some, cond_true]
  rw [hsub _ (by simp)]
  simp only [Option.bind_some]
  rw [runs_good hx (hd _ hg) (by simp)]
  rfl
end Go.Proofs.Ytadajdcbeegabaa
