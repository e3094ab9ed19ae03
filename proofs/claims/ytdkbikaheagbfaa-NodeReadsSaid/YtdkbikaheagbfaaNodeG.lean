import Derived.Test.YtdkbikaheagbfaaPAx9
/-! Nodes: what is more than is asked. -/
set_option linter.unusedVariables false
set_option linter.unusedSectionVars false
set_option linter.unusedSimpArgs false
namespace Go.Proofs.Ytdkbikaheagbfaa.NodeP
open Go.RowKit Go.Proofs.Ytdkbikaheagbfaa.PA Go.Proofs.YtdkbikaheagbfaaW.PrintWords Go.Proofs.YtdkbikaheagbfaaW.PrintLast Go.Proofs.YtdkbikaheagbfaaW.PrintMore
open Go.Proofs.Ytdkbikaheagbfaa.Plain
theorem wrapn {j : Nat} (h : j < 4611686018427387904) : wrap64 ((j : Int) + 1) = ((j + 1 : Nat) : Int) := by rw [wrap_in (by omega) (by omega)]; omega
/-- No more than is asked. -/
def small (l : List S44) (m : List S46) : Prop :=
  l.length ≤ 5000 ∧ m.length ≤ 5000 ∧ (∀ x ∈ l, x.f0.size ≤ 1000 ∧ x.f1.size ≤ 1000) ∧ (∀ x ∈ m, x.f0.size ≤ 1000)
theorem drop44 (l : List S44) (j : Nat) (hj : j < l.length) : l.drop j = rd_T44 l (j : Int) :: l.drop (j + 1) := by
  rw [List.drop_eq_getElem_cons hj]
  unfold rd_T44
  rw [Int.toNat_natCast, List.getD_eq_getElem?_getD, List.getElem?_eq_getElem hj]; rfl
theorem drop46 (l : List S46) (j : Nat) (hj : j < l.length) : l.drop j = rd_T46 l (j : Int) :: l.drop (j + 1) := by
  rw [List.drop_eq_getElem_cons hj]
  unfold rd_T46
  rw [Int.toNat_natCast, List.getD_eq_getElem?_getD, List.getElem?_eq_getElem hj]; rfl
end Go.Proofs.Ytdkbikaheagbfaa.NodeP
