/- The law SeqPairs, as a plain statement: proved. -/
import Derived.Test.YtadajdcbeegabaaLSeqPairs
import Derived.Test.YtadajdcbeegabaaStG
namespace Go.Proofs.Ytadajdcbeegabaa
open Go Go.RowKit Fr
set_option linter.unusedVariables false
set_option linter.unusedSimpArgs false
set_option maxRecDepth 20000
theorem pure_SeqPairs (x : T_Script) (hx : Wf_Script x) : l5_SeqPairs x = some true := by
  obtain ⟨p, h1, h2, h3⟩ := kinds_ok hx (lo := 18) (hi := 20) (by decide) (by decide) (by decide)
  simp only [l5_SeqPairs, h1, runs_good hx h2 h3, Option.bind_some]
end Go.Proofs.Ytadajdcbeegabaa
