import Derived.Test.YtcocddpknkklhaaPAx10
import Derived.Test.YtcocddpknkklhaaPAx12
import Derived.Test.YtcocddpknkklhaaPAx8
import Derived.Test.YtcocddpknkklhaaPAx9
import Derived.Test.YtcocddpknkklhaaDeltaT
/-! Changes that are not more than is asked: how many, how great their keys. -/
set_option linter.unusedVariables false
namespace Go.Proofs.Ytcocddpknkklhaa.DeltaP
open Go.RowKit Go.Proofs.Ytcocddpknkklhaa.PA Go.Proofs.YtcocddpknkklhaaW.PrintWords Go.Proofs.YtcocddpknkklhaaW.PrintLast Go.Proofs.YtcocddpknkklhaaW.PrintMore
open Go.Proofs.Ytcocddpknkklhaa.Plain Go.Proofs.Ytcocddpknkklhaa.MergeP
theorem mine_f {l : List Ch} (h : l.length ≤ 1000) : coppicelaw18_mine.f l = some l := by
  unfold coppicelaw18_mine.f
  rw [Option.bind_some, if_pos (by simp; omega), List.nil_append]
theorem greatC_l (l : List Ch) (hl : l.length ≤ 300) (n : Nat) : ∀ k j : Nat, n = l.length - j → n < k → j ≤ l.length → ∃ b, coppiceref18_Great.l0 k l (j : Int) = some b ∧ (b = false → ∀ x ∈ l.drop j, x.f0.size ≤ 400) := by
  induction n with
  | zero =>
    intro k j hn hk hj
    obtain ⟨k, rfl⟩ : ∃ q, k = q + 1 := ⟨k - 1, by omega⟩
    refine ⟨false, ?_, fun _ x hx => ?_⟩
    · simp only [coppiceref18_Great.l0]; rw [if_neg (by omega)]
    · rw [List.drop_of_length_le (by omega)] at hx; cases hx
  | succ n ih =>
    intro k j hn hk hj
    obtain ⟨k, rfl⟩ : ∃ q, k = q + 1 := ⟨k - 1, by omega⟩
    simp only [coppiceref18_Great.l0]
    rw [if_pos (by omega), if_pos (by omega), wrapn (by omega), dropC l j (by omega)]
    by_cases h : (((rd_T61 l (j : Int)).f0).size : Int) > 400
    · rw [if_pos h]; exact ⟨true, rfl, fun h => by cases h⟩
    · rw [if_neg h]
      by_cases h2 : (((rd_T61 l (j : Int)).f3).size : Int) > 400
      · rw [if_pos h2]; exact ⟨true, rfl, fun h => by cases h⟩
      · rw [if_neg h2]
        by_cases h3 : (((rd_T61 l (j : Int)).f4).size : Int) > 400
        · rw [if_pos h3]; exact ⟨true, rfl, fun h => by cases h⟩
        · rw [if_neg h3]
          obtain ⟨b, hb, hx⟩ := ih k (j + 1) (by omega) (by omega) (by omega)
          refine ⟨b, hb, fun e x hm => ?_⟩
          rcases List.mem_cons.1 hm with rfl | hm
          · omega
          · exact hx e x hm
theorem greatC_f (l : List Ch) (k : Nat) (hk : 301 ≤ k) : ∃ b, coppiceref18_Great.f k l = some b ∧ (b = false → l.length ≤ 300 ∧ ∀ x ∈ l, x.f0.size ≤ 400) := by
  unfold coppiceref18_Great.f
  by_cases h : (l.length : Int) > 300
  · rw [if_pos h]; exact ⟨true, rfl, fun h => by cases h⟩
  · rw [if_neg h]
    obtain ⟨b, hb, hx⟩ := greatC_l l (by omega) l.length k 0 (by omega) (by omega) (by omega)
    exact ⟨b, hb, fun e => ⟨by omega, fun x hm => hx e x (by rw [List.drop_zero]; exact hm)⟩⟩
end Go.Proofs.Ytcocddpknkklhaa.DeltaP
