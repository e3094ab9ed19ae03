/- Encode, Check and Size of whatever node are the document's: no condition. -/
import Derived.Test.YtdkbikaheagbfaaPAx17
import Derived.Test.YtdkbikaheagbfaaNodeD
namespace Go.Proofs.Ytdkbikaheagbfaa.Pure
open Go.RowKit Go.Proofs.Ytdkbikaheagbfaa.PA Go.Proofs.YtdkbikaheagbfaaW.PrintWords Go.Proofs.YtdkbikaheagbfaaW.PrintLast Go.Proofs.Ytdkbikaheagbfaa.NodeP

theorem NodeWrites : coppicelaw06_NodeWrites.Pure := by
  intro x _
  refine ⟨1000, ?_⟩
  unfold coppicelaw06_NodeWrites.f
  obtain ⟨b, hb, hsm⟩ := great_ok 1000 x.f0 x.f1 x.f2 (by decide)
  rw [awake_ok, Option.bind_some, if_pos rfl, hb, Option.bind_some]
  cases b with
  | true => rw [if_pos rfl]
  | false =>
    have hs := hsm rfl
    rw [if_neg (by decide), nencode_ok _ _ _ hs, Option.bind_some, rencode_ok 1000 _ _ _ hs (by decide), Option.bind_some, if_pos rfl, if_pos rfl, ncheck_ok _ _ _ hs, Option.bind_some, rcheck_ok 1000 _ _ _ hs (by decide), Option.bind_some, if_pos rfl, nsize_ok _ _ _ hs, Option.bind_some, rsize_ok 1000 _ _ _ hs (by decide), Option.bind_some]
    simp

end Go.Proofs.Ytdkbikaheagbfaa.Pure
