import Derived.Test.YtdkbikaheagbfaaPTx11
import Derived.Test.YtdkbikaheagbfaaPTx9
/-! Nodes: what is more than is asked. -/
set_option linter.unusedVariables false
set_option linter.unusedSectionVars false
set_option linter.unusedSimpArgs false
namespace Go.Proofs.Ytdkbikaheagbfaa.NodeP
open Go.RowKit Go.Proofs.Ytdkbikaheagbfaa.PT Go.Proofs.YtdkbikaheagbfaaW.PrintWords Go.Proofs.YtdkbikaheagbfaaW.PrintLast Go.Proofs.YtdkbikaheagbfaaW.PrintMore
open Go.Proofs.Ytdkbikaheagbfaa.Plain
theorem wrapn {j : Nat} (h : j < 4611686018427387904) : wrap64 ((j : Int) + 1) = ((j + 1 : Nat) : Int) := by rw [wrap_in (by omega) (by omega)]; omega
/-- No more than is asked. -/
def small (l : List S44) (m : List S46) : Prop :=
  l.length ≤ 5000 ∧ m.length ≤ 5000 ∧ (∀ x ∈ l, x.f0.size ≤ 1000 ∧ x.f1.size ≤ 1000) ∧ (∀ x ∈ m, x.f0.size ≤ 1000)
theorem drop44 (l : List S44) (j : Nat) (hj : j < l.length) : l.drop j = rd_T44 l (j : Int) :: l.drop (j + 1) := by
  rw [List.drop_eq_getElem_cons hj]
  unfold rd_T44
  rw [Int.toNat_natCast, List.getD_eq_getElem?_getD, List.getElem?_eq_getElem hj]; rfl
theorem drop46 (l : List S46) (j : Nat) (hj : j < l.length) : l.drop j = rd_T46 l (j : Int) :: l.drop (j + 1) := by
  rw [List.drop_eq_getElem_cons hj]
  unfold rd_T46
  rw [Int.toNat_natCast, List.getD_eq_getElem?_getD, List.getElem?_eq_getElem hj]; rfl
theorem great_l1 (a : Bool) (l : List S44) (m : List S46) (hm : m.length ≤ 300) (n : Nat) : ∀ k j : Nat, n = m.length - j → n < k → j ≤ m.length →
    ∃ b, coppiceref06_Great.l1 k (j : Int) a l m = some b ∧ (b = false → ∀ x ∈ m.drop j, x.f0.size ≤ 1000) := by
  induction n with
  | zero =>
    intro k j hn hk hj
    obtain ⟨k, rfl⟩ : ∃ q, k = q + 1 := ⟨k - 1, by omega⟩
    refine ⟨false, ?_, fun _ x hx => ?_⟩
    · simp only [coppiceref06_Great.l1]; rw [if_neg (by omega)]
    · rw [List.drop_of_length_le (by omega)] at hx; cases hx
  | succ n ih =>
    intro k j hn hk hj
    obtain ⟨k, rfl⟩ : ∃ q, k = q + 1 := ⟨k - 1, by omega⟩
    simp only [coppiceref06_Great.l1]
    rw [if_pos (by omega), if_pos (by omega), wrapn (by omega), drop46 m j (by omega)]
    by_cases h : (((rd_T46 m (j : Int)).f0).size : Int) > 1000
    · rw [if_pos h]; exact ⟨true, rfl, fun h => by cases h⟩
    · rw [if_neg h]
      obtain ⟨b, hb, hx⟩ := ih k (j + 1) (by omega) (by omega) (by omega)
      refine ⟨b, hb, fun e x hm => ?_⟩
      rcases List.mem_cons.mp hm with rfl | hm
      · omega
      · exact hx e x hm
theorem great_l0 (a : Bool) (l : List S44) (m : List S46) (hl : l.length ≤ 300) (hm : m.length ≤ 300) (n : Nat) : ∀ k j : Nat, n = l.length - j → n + 301 < k → j ≤ l.length →
    ∃ b, coppiceref06_Great.l0 k (j : Int) a l m = some b ∧ (b = false → (∀ x ∈ l.drop j, x.f0.size ≤ 1000 ∧ x.f1.size ≤ 1000) ∧ ∀ x ∈ m, x.f0.size ≤ 1000) := by
  induction n with
  | zero =>
    intro k j hn hk hj
    obtain ⟨k, rfl⟩ : ∃ q, k = q + 1 := ⟨k - 1, by omega⟩
    simp only [coppiceref06_Great.l0]
    rw [if_neg (by omega)]
    obtain ⟨b, hb, hx⟩ := great_l1 a l m hm m.length k 0 (by omega) (by omega) (by omega)
    refine ⟨b, hb, fun e => ⟨fun x hx => ?_, fun x hm => hx e x (by rw [List.drop_zero]; exact hm)⟩⟩
    rw [List.drop_of_length_le (by omega)] at hx; cases hx
  | succ n ih =>
    intro k j hn hk hj
    obtain ⟨k, rfl⟩ : ∃ q, k = q + 1 := ⟨k - 1, by omega⟩
    simp only [coppiceref06_Great.l0]
    rw [if_pos (by omega), if_pos (by omega), wrapn (by omega), drop44 l j (by omega)]
    by_cases h : (((rd_T44 l (j : Int)).f0).size : Int) > 1000
    · rw [if_pos h]; exact ⟨true, rfl, fun h => by cases h⟩
    · rw [if_neg h]
      by_cases h2 : (((rd_T44 l (j : Int)).f1).size : Int) > 1000
      · rw [if_pos h2]; exact ⟨true, rfl, fun h => by cases h⟩
      · rw [if_neg h2]
        obtain ⟨b, hb, hx⟩ := ih k (j + 1) (by omega) (by omega) (by omega)
        refine ⟨b, hb, fun e => ⟨fun x hm => ?_, (hx e).2⟩⟩
        rcases List.mem_cons.mp hm with rfl | hm
        · omega
        · exact (hx e).1 x hm
theorem great_ok (k : Nat) (a : Bool) (l : List S44) (m : List S46) (hk : 700 ≤ k) : ∃ b, coppiceref06_Great.f k a l m = some b ∧ (b = false → small l m) := by
  unfold coppiceref06_Great.f
  obtain ⟨k, rfl⟩ : ∃ q, k = q + 1 := ⟨k - 1, by omega⟩
  by_cases h : (l.length : Int) > 300
  · rw [if_pos h]; simp only [coppiceref06_Great.j0]; exact ⟨true, rfl, fun h => by cases h⟩
  rw [if_neg h]; simp only [coppiceref06_Great.j0]
  by_cases h2 : (m.length : Int) > 300
  · rw [decide_eq_true h2, if_pos rfl]; exact ⟨true, rfl, fun h => by cases h⟩
  rw [decide_eq_false h2, if_neg (by decide)]
  obtain ⟨b, hb, hx⟩ := great_l0 a l m (by omega) (by omega) l.length k 0 (by omega) (by omega) (by omega)
  exact ⟨b, hb, fun e => ⟨by omega, by omega, by have := (hx e).1; rwa [List.drop_zero] at this, (hx e).2⟩⟩
end Go.Proofs.Ytdkbikaheagbfaa.NodeP
