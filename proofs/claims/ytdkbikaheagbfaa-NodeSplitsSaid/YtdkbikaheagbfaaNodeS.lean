import Derived.Test.YtdkbikaheagbfaaPTx19
import Derived.Test.YtdkbikaheagbfaaNodeG
/-! A node is the same as itself. -/
set_option linter.unusedVariables false
set_option linter.unusedSectionVars false
set_option linter.unusedSimpArgs false
namespace Go.Proofs.Ytdkbikaheagbfaa.NodeP
open Go.RowKit Go.Proofs.Ytdkbikaheagbfaa.PT Go.Proofs.YtdkbikaheagbfaaW.PrintWords Go.Proofs.YtdkbikaheagbfaaW.PrintLast Go.Proofs.YtdkbikaheagbfaaW.PrintMore
open Go.Proofs.Ytdkbikaheagbfaa.Plain
section
variable (a : Bool) (l : List S44) (m : List S46) (hl : l.length ≤ 5000) (hm : m.length ≤ 5000)
include hl hm
theorem same_l1 (n : Nat) : ∀ k j : Nat, n = m.length - j → n < k → j ≤ m.length → coppiceref06_Same.l1 k (j : Int) a l m a l m = some true := by
  induction n with
  | zero =>
    intro k j hn hk hj
    obtain ⟨k, rfl⟩ : ∃ q, k = q + 1 := ⟨k - 1, by omega⟩
    rw [coppiceref06_Same.l1, if_neg (by omega)]
  | succ n ih =>
    intro k j hn hk hj
    obtain ⟨k, rfl⟩ : ∃ q, k = q + 1 := ⟨k - 1, by omega⟩
    rw [coppiceref06_Same.l1, if_pos (by omega), if_pos (by omega), if_pos (by omega), if_neg (by simp), wrapn (by omega)]
    exact ih k (j + 1) (by omega) (by omega) (by omega)
theorem same_l0 (n : Nat) : ∀ k j : Nat, n = l.length - j → n + m.length + 1 < k → j ≤ l.length → coppiceref06_Same.l0 k (j : Int) a l m a l m = some true := by
  induction n with
  | zero =>
    intro k j hn hk hj
    obtain ⟨k, rfl⟩ : ∃ q, k = q + 1 := ⟨k - 1, by omega⟩
    rw [coppiceref06_Same.l0, if_neg (by omega)]
    exact same_l1 a l m hl hm m.length k 0 (by omega) (by omega) (by omega)
  | succ n ih =>
    intro k j hn hk hj
    obtain ⟨k, rfl⟩ : ∃ q, k = q + 1 := ⟨k - 1, by omega⟩
    rw [coppiceref06_Same.l0, if_pos (by omega), if_pos (by omega), if_pos (by omega), if_neg (by simp), wrapn (by omega)]
    exact ih k (j + 1) (by omega) (by omega) (by omega)
theorem same_self (k : Nat) (hk : 10100 ≤ k) : coppiceref06_Same.f k a l m a l m = some true := by
  obtain ⟨k, rfl⟩ : ∃ q, k = q + 1 := ⟨k - 1, by omega⟩
  unfold coppiceref06_Same.f
  rw [if_neg (by simp), if_pos rfl, bne_self_eq_false, coppiceref06_Same.j0, if_neg Bool.false_ne_true]
  exact same_l0 a l m hl hm l.length k 0 (by omega) (by omega) (by omega)
end
end Go.Proofs.Ytdkbikaheagbfaa.NodeP
