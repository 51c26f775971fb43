/- The law SeqMemory, as a plain statement: proved. -/
import Derived.Test.YtadajdcbeegabaaLSeqMemory
import Derived.Test.YtadajdcbeegabaaStG
namespace Go.Proofs.Ytadajdcbeegabaa
open Go Go.RowKit Fr
set_option linter.unusedVariables false
set_option linter.unusedSimpArgs false
set_option maxRecDepth 20000
theorem pure_SeqMemory (x : T_Script) (hx : Wf_Script x) : l5_SeqMemory x = some true := by
  have hk0 := Int.emod_nonneg (x.N.length : Int) (show (3 : Int) ≠ 0 by decide)
  have hk1 := Int.emod_lt_of_pos (x.N.length : Int) (show (0 : Int) < 3 by decide)
  have hrem := remN (n := x.N.length) (by decide : (0 : Int) < 3)
  generalize (x.N.length : Int) % 3 = k at hk0 hk1 hrem
  have h2 : l5_runs x ([(⟨23, 1, 0, 0, (-1), ByteArray.empty⟩ : T_Ins), (⟨24, 2, 1, 0, 1, ByteArray.empty⟩ : T_Ins), (⟨25, 0, 1, 2, 0, ByteArray.empty⟩ : T_Ins)] : List T_Ins) = some true := runs_good hx (by repeat (first | exact good_nil | refine good_cons (wf_code (by decide) (by decide) (by decide) (by decide) (by decide)) (by decide) ?_)) (by decide)
  have hr : ∀ m : Int, -8192 ≤ m → m < 8192 → l5_runs x ([(⟨23, 1, 0, 0, 253, ByteArray.empty⟩ : T_Ins), (⟨26, 2, 0, 0, 0, ByteArray.empty⟩ : T_Ins), (⟨25, 0, 1, 2, m, ByteArray.empty⟩ : T_Ins), (⟨24, 3, 1, 0, m, ByteArray.empty⟩ : T_Ins), (⟨27, 0, 3, 0, 0, ByteArray.empty⟩ : T_Ins), (⟨22, 1, 1, 0, 1, ByteArray.empty⟩ : T_Ins), (⟨28, 0, 0, 0, 1, ByteArray.empty⟩ : T_Ins)] : List T_Ins) = some true := by
    intro m h0 h1
    have c1 : codeB ⟨25, 0, 1, 2, m, ByteArray.empty⟩ = true := by
      simp only [codeB, insB, show isa_Shape 25 = 5 from by decide, immB]
      simp [h0, h1, empty_mk]; decide
    have c2 : codeB ⟨24, 3, 1, 0, m, ByteArray.empty⟩ = true := by
      simp only [codeB, insB, show isa_Shape 24 = 3 from by decide, immB]
      simp [h0, h1, empty_mk]; decide
    refine runs_good hx (good_app (p := [_, _]) (by repeat (first | exact good_nil | refine good_cons (wf_code (by decide) (by decide) (by decide) (by decide) (by decide)) (by decide) ?_)) (good_cons (wf_code (by decide) (by decide) (by decide) (by decide) (by omega)) c1 (good_cons (wf_code (by decide) (by decide) (by decide) (by decide) (by omega)) c2 (by repeat (first | exact good_nil | refine good_cons (wf_code (by decide) (by decide) (by decide) (by decide) (by decide)) (by decide) ?_))))) (by simp)
  obtain ⟨r, h3, rfl⟩ := loop_ex (b := l5_SeqMemory_b2 x) (fun i => -2 ≤ i ∧ i ≤ 3) (fun i => (3 - i).toNat) (fun r => r = .next ()) (fun i hi => by
    by_cases h : i < 3
    · refine .inl ⟨i + 1, ?_, by omega, by omega⟩
      simp only [l5_SeqMemory_b2, h, decide_true, cond_true, hrem, Option.bind_some]
      rw [wrap_i64 (n := i + k) (by omega) (by omega), hr _ (by omega) (by omega), wrap_i64 (by omega) (by omega)]
      rfl
    · exact .inr ⟨_, by simp [l5_SeqMemory_b2, h], rfl⟩) 10 (-2) (by decide) (by decide)
  simp only [l5_SeqMemory, h3, cut, l5_SeqMemory_k1, h2, Option.bind_some]
end Go.Proofs.Ytadajdcbeegabaa
