/- The law SeqPorts, as a plain statement: proved. -/
import Derived.Test.YtadajdcbeegabaaLSeqPorts
import Derived.Test.YtadajdcbeegabaaStG
namespace Go.Proofs.Ytadajdcbeegabaa
open Go Go.RowKit Fr
set_option linter.unusedVariables false
set_option linter.unusedSimpArgs false
set_option maxRecDepth 20000
theorem pure_SeqPorts (x : T_Script) (hx : Wf_Script x) : l5_SeqPorts x = some true := by
  have hr : ∀ k : Int, 0 ≤ k → k < 3 → l5_runs x ([(⟨26, 1, 0, 0, 0, ByteArray.empty⟩ : T_Ins), (⟨27, 0, 1, 0, 0, ByteArray.empty⟩ : T_Ins), (⟨26, 2, 0, 0, 0, ByteArray.empty⟩ : T_Ins), (⟨18, 3, 2, 1, 0, ByteArray.empty⟩ : T_Ins), (⟨27, 0, 3, 0, 0, ByteArray.empty⟩ : T_Ins), (⟨30, 0, 2, 0, k, ByteArray.empty⟩ : T_Ins), (⟨27, 0, 0, 0, 0, ByteArray.empty⟩ : T_Ins), (⟨26, 0, 0, 0, 0, ByteArray.empty⟩ : T_Ins), (⟨33, 0, 0, 0, 0, ByteArray.empty⟩ : T_Ins)] : List T_Ins) = some true := by
    intro k h0 h1
    rcases (show k = 0 ∨ k = 1 ∨ k = 2 by omega) with rfl | rfl | rfl <;> exact runs_good hx (by repeat (first | exact good_nil | refine good_cons (wf_code (by decide) (by decide) (by decide) (by decide) (by decide)) (by decide) ?_)) (by decide)
  simp only [l5_SeqPorts, remN (by decide : (0 : Int) < 3), Option.bind_some]
  rw [hr _ (Int.emod_nonneg _ (by decide)) (Int.emod_lt_of_pos _ (by decide))]
  rfl
end Go.Proofs.Ytadajdcbeegabaa
