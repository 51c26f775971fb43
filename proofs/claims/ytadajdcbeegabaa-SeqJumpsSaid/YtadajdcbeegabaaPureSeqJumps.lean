/- The law SeqJumps, as a plain statement: proved. -/
import Derived.Test.YtadajdcbeegabaaLSeqJumps
import Derived.Test.YtadajdcbeegabaaStG
namespace Go.Proofs.Ytadajdcbeegabaa
open Go Go.RowKit Fr
set_option linter.unusedVariables false
set_option linter.unusedSimpArgs false
set_option maxRecDepth 20000
theorem pure_SeqJumps (x : T_Script) (hx : Wf_Script x) : l5_SeqJumps x = some true := by
  have hr : ∀ k : Int, 0 ≤ k → k < 5 → l5_runs x ([(⟨23, 1, 0, 0, IntKind.i64.wrap (1 + k), ByteArray.empty⟩ : T_Ins), (⟨27, 0, 1, 0, 0, ByteArray.empty⟩ : T_Ins), (⟨22, 1, 1, 0, (-1), ByteArray.empty⟩ : T_Ins), (⟨30, 0, 1, 0, 1, ByteArray.empty⟩ : T_Ins), (⟨33, 0, 0, 0, 0, ByteArray.empty⟩ : T_Ins)] : List T_Ins) = some true := by
    intro k h0 h1
    rw [wrap_i64 (by omega) (by omega)]
    rcases (show k = 0 ∨ k = 1 ∨ k = 2 ∨ k = 3 ∨ k = 4 by omega) with rfl | rfl | rfl | rfl | rfl <;> exact runs_good hx (by repeat (first | exact good_nil | refine good_cons (wf_code (by decide) (by decide) (by decide) (by decide) (by decide)) (by decide) ?_)) (by decide)
  have h2 : l5_runs x ([(⟨26, 1, 0, 0, 0, ByteArray.empty⟩ : T_Ins), (⟨29, 0, 1, 0, 4, ByteArray.empty⟩ : T_Ins), (⟨27, 0, 1, 0, 0, ByteArray.empty⟩ : T_Ins), (⟨28, 0, 0, 0, 0, ByteArray.empty⟩ : T_Ins), (⟨28, 0, 0, 0, 5, ByteArray.empty⟩ : T_Ins)] : List T_Ins) = some true := runs_good hx (by repeat (first | exact good_nil | refine good_cons (wf_code (by decide) (by decide) (by decide) (by decide) (by decide)) (by decide) ?_)) (by decide)
  simp only [l5_SeqJumps, remN (by decide : (0 : Int) < 5), Option.bind_some]
  rw [hr _ (Int.emod_nonneg _ (by decide)) (Int.emod_lt_of_pos _ (by decide))]
  simp only [Option.bind_some, h2, cond_true]
end Go.Proofs.Ytadajdcbeegabaa
