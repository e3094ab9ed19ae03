/- Whatever bytes there are, Decode answers as the document says: no condition. -/
import Derived.Test.YtdkbikaheagbfaaPAx24
import Derived.Test.YtdkbikaheagbfaaNodeK
import Derived.Test.YtdkbikaheagbfaaNodeS
namespace Go.Proofs.Ytdkbikaheagbfaa.Pure
open Go.RowKit Go.Proofs.Ytdkbikaheagbfaa.PA Go.Proofs.YtdkbikaheagbfaaW.PrintWords Go.Proofs.YtdkbikaheagbfaaW.PrintLast Go.Proofs.Ytdkbikaheagbfaa.NodeP

theorem NodeReads : coppicelaw06_NodeReads.Pure := by
  intro s _
  refine ⟨20000, ?_⟩
  unfold coppicelaw06_NodeReads.f
  rw [awake_ok, Option.bind_some, if_pos rfl]
  by_cases c : (s.size : Int) > 4096
  · rw [if_pos c]
  rw [if_neg c]
  obtain ⟨⟨b, l, m, e⟩, h1, h2, h3⟩ := decode_both s (by omega) 20000 (by decide)
  rw [h1, Option.bind_some, h2, Option.bind_some, if_pos rfl]
  have hz : l.length ≤ 5000 ∧ m.length ≤ 5000 := by
    rcases h3 with h3 | ⟨b', l', m', h3, hc, _⟩
    · cases h3; exact ⟨by simp, by simp⟩
    · cases h3
      have := small_ok b l m hc
      exact ⟨this.1, this.2.1⟩
  rw [same_self b l m hz.1 hz.2 20000 (by decide)]
  rfl

end Go.Proofs.Ytdkbikaheagbfaa.Pure
