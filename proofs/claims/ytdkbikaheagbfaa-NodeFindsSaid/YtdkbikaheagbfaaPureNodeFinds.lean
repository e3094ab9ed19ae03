/- Find, of whatever entries and key, is the document's: no condition. -/
import Derived.Test.YtdkbikaheagbfaaPAx35
import Derived.Test.YtdkbikaheagbfaaNodeC
import Derived.Test.YtdkbikaheagbfaaNodeF
namespace Go.Proofs.Ytdkbikaheagbfaa.Pure
open Go.RowKit Go.Proofs.Ytdkbikaheagbfaa.PA Go.Proofs.YtdkbikaheagbfaaW.PrintWords Go.Proofs.YtdkbikaheagbfaaW.PrintLast Go.Proofs.Ytdkbikaheagbfaa.NodeP

theorem NodeFinds : coppicelaw06_NodeFinds.Pure := by
  intro x key _ _
  refine ⟨2001, ?_⟩
  unfold coppicelaw06_NodeFinds.f
  obtain ⟨b, hb, hsm⟩ := great_ok 2001 x.f0 x.f1 x.f2 (by decide)
  rw [awake_ok, Option.bind_some, if_pos rfl, hb, Option.bind_some]
  have j1 : ∀ a l m, coppicelaw06_NodeFinds.j0 2001 key true a l m = some true := fun a l m => by simp only [coppicelaw06_NodeFinds.j0]; rfl
  cases b with
  | true => rw [if_pos rfl, j1]
  | false =>
    have hs := hsm rfl
    rw [if_neg (by decide)]
    by_cases c : (key.size : Int) > 1000
    · rw [decide_eq_true c, j1]
    rw [decide_eq_false c]
    obtain ⟨r, h1, h2⟩ := find_ok 2000 x.f0 x.f1 x.f2 key hs (by decide)
    simp only [coppicelaw06_NodeFinds.j0]
    rw [if_neg (by decide), h1, Option.bind_some, h2, Option.bind_some]
    simp

end Go.Proofs.Ytdkbikaheagbfaa.Pure
