import Derived.Test.YtofdpgcnconibaaGreatDoorPAx7
import Derived.Test.YtofdpgcnconibaaGreatDoorSim
import Derived.Lib.IndexAny
set_option linter.unusedVariables false
set_option linter.unusedSimpArgs false
/-! What is a symlink's target: path's word. -/
namespace Go.Proofs.YtofdpgcnconibaaGreatDoor.TargetP
open Go.RowKit Go.Proofs.YtofdpgcnconibaaGreatDoor.PA Go.Proofs.YtofdpgcnconibaaGreatDoorW.PrintWords Go.Proofs.YtofdpgcnconibaaGreatDoorW.PrintLast Go.Proofs.YtofdpgcnconibaaGreatDoorW.PrintMore
open Go.Proofs.YtofdpgcnconibaaGreatDoor.Plain

def hasZero (T : ByteArray) : Bool := T.data.toList.contains 0
def tgt (T : ByteArray) : Bool := decide (1 ≤ T.size) && (decide (T.size ≤ 100) && !hasZero T)
theorem len_size (T : ByteArray) : T.data.toList.length = T.size := Array.length_toList
theorem nil_size (T : ByteArray) : T.toList = ([] : List UInt8) ↔ T.size = 0 := by
  rw [ByteArray.toList_eq, ← len_size]
  exact List.length_eq_zero_iff.symm
theorem contains_zero (T : ByteArray) : strings_Contains.f T (⟨#[0]⟩ : ByteArray) = some (hasZero T) := by
  unfold strings_Contains.f
  rw [if_pos (show (⟨#[0]⟩ : ByteArray).size = 1 from rfl)]
  congr 1
  unfold hasZero
  rw [Go.Lib.contains_iff_indexByte]
  rfl
theorem target_ok (T : ByteArray) : path_Target.f T = some (tgt T) := by
  unfold path_Target.f tgt
  by_cases c0 : T.size = 0
  · rw [if_pos ((nil_size T).2 c0), decide_eq_false (by omega)]; rfl
  rw [if_neg (fun h => c0 ((nil_size T).1 h)), decide_eq_true (by omega : 1 ≤ T.size), Bool.true_and]
  by_cases c1 : T.size ≤ 100
  · rw [if_pos (by omega), contains_zero, decide_eq_true c1]; rfl
  · rw [if_neg (by omega), decide_eq_false c1]; rfl
theorem bt_zero (T : ByteArray) (i : Nat) (h : i < T.size) : bt T (i : Int) = 0 ↔ T.data.toList[i]'(by rw [len_size]; exact h) = 0 := by
  rw [bt_nat T i h]
  constructor
  · intro e
    have e2 : T[i].toNat = 0 := by omega
    have : T[i] = 0 := UInt8.toNat_inj.1 (by rw [e2]; rfl)
    rw [Array.getElem_toList]; exact this
  · intro e
    have : T[i] = 0 := by rw [Array.getElem_toList] at e; exact e
    rw [this]; rfl
theorem zero_at (T : ByteArray) (i : Nat) (h : i < T.size) (e : bt T (i : Int) = 0) : hasZero T = true := by
  have := (bt_zero T i h).1 e
  unfold hasZero
  rw [List.contains_iff_mem, ← this]
  exact List.getElem_mem ..
theorem zero_none (T : ByteArray) (h : ∀ i : Nat, i < T.size → bt T (i : Int) ≠ 0) : hasZero T = false := by
  unfold hasZero
  cases hc : T.data.toList.contains 0 with
  | false => rfl
  | true =>
    rw [List.contains_iff_mem] at hc
    obtain ⟨i, hi, e⟩ := List.getElem_of_mem hc
    have hi' : i < T.size := by rw [← len_size]; exact hi
    exact absurd ((bt_zero T i hi').2 e) (h i hi')
end Go.Proofs.YtofdpgcnconibaaGreatDoor.TargetP
