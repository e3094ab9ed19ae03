/- Split gives the parts that the document gives: no condition. -/
import Derived.Test.YtdkbikaheagbfaaPTx20
import Derived.Test.YtdkbikaheagbfaaNodeW
namespace Go.Proofs.Ytdkbikaheagbfaa.Pure
open Go.RowKit Go.Proofs.Ytdkbikaheagbfaa.PT Go.Proofs.YtdkbikaheagbfaaW.PrintWords Go.Proofs.YtdkbikaheagbfaaW.PrintLast Go.Proofs.Ytdkbikaheagbfaa.NodeP

theorem NodeSplits : coppicelaw06_NodeSplits.Pure := by
  intro x _
  exact ⟨50000, splits_ok x.f0 x.f1 x.f2 50000 (by decide)⟩
end Go.Proofs.Ytdkbikaheagbfaa.Pure
