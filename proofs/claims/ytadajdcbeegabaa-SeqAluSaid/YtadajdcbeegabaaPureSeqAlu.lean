/- The law SeqAlu, as a plain statement: proved. -/
import Derived.Test.YtadajdcbeegabaaLSeqAlu
import Derived.Test.YtadajdcbeegabaaStG
namespace Go.Proofs.Ytadajdcbeegabaa
open Go Go.RowKit Fr
set_option linter.unusedVariables false
set_option linter.unusedSimpArgs false
set_option maxRecDepth 20000
theorem pure_SeqAlu (x : T_Script) (hx : Wf_Script x) : l5_SeqAlu x = some true := by
  obtain ⟨p, h1, h2, h3⟩ := kinds_ok hx (lo := 1) (hi := 15) (by decide) (by decide) (by decide)
  simp only [l5_SeqAlu, h1, runs_good hx h2 h3, Option.bind_some]
end Go.Proofs.Ytadajdcbeegabaa
