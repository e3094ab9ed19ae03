import Derived.Test.YtofdpgcnconibaaGreatDoorPAx18
import Derived.Test.YtofdpgcnconibaaGreatDoorTarget
set_option linter.unusedVariables false
set_option linter.unusedSimpArgs false
/-! What the document calls a target. -/
namespace Go.Proofs.YtofdpgcnconibaaGreatDoor.TargetP
open Go.RowKit Go.Proofs.YtofdpgcnconibaaGreatDoor.PA Go.Proofs.YtofdpgcnconibaaGreatDoorW.PrintWords Go.Proofs.YtofdpgcnconibaaGreatDoorW.PrintLast Go.Proofs.YtofdpgcnconibaaGreatDoorW.PrintMore
open Go.Proofs.YtofdpgcnconibaaGreatDoor.Plain
theorem rtarget_loop (T : ByteArray) (hT : T.size ≤ 4611686018427387904) : ∀ (m k i : Nat), T.size = i + m → m < k → (∀ j : Nat, j < i → bt T (j : Int) ≠ 0) → coppiceref12_Target.l0 k T (i : Int) = some (tgt T)
  | 0, k, i, hz, hk, hb => by
    obtain ⟨k, rfl⟩ : ∃ q, k = q + 1 := ⟨k - 1, by omega⟩
    have hn : hasZero T = false := zero_none T (fun j hj => hb j (by omega))
    rw [coppiceref12_Target.l0, if_neg (by omega)]
    unfold tgt
    rw [hn]
    by_cases c0 : 1 ≤ T.size
    · rw [if_pos (by omega), decide_eq_true c0]
      congr 1
      by_cases c1 : T.size ≤ 100
      · rw [decide_eq_true c1, decide_eq_true (by omega)]; rfl
      · rw [decide_eq_false c1, decide_eq_false (by omega)]; rfl
    · rw [if_neg (by omega), decide_eq_false c0]; rfl
  | m + 1, k, i, hz, hk, hb => by
    obtain ⟨k, rfl⟩ : ∃ q, k = q + 1 := ⟨k - 1, by omega⟩
    rw [coppiceref12_Target.l0, if_pos (by omega), if_pos (by omega)]
    by_cases c : bt T (i : Int) = 0
    · rw [if_pos c]
      unfold tgt
      rw [zero_at T i (by omega) c]
      simp
    · rw [if_neg c]
      have e : wrap64 ((i : Int) + 1) = ((i + 1 : Nat) : Int) := by unfold wrap64; omega
      rw [e]
      refine rtarget_loop T hT m k (i + 1) (by omega) (by omega) ?_
      intro j hj
      by_cases cj : j = i
      · subst cj; exact c
      · exact hb j (by omega)
theorem rtarget_ok (T : ByteArray) (hT : T.size ≤ 4611686018427387904) (k : Nat) (hk : T.size < k) : coppiceref12_Target.f k T = some (tgt T) := by
  unfold coppiceref12_Target.f
  exact rtarget_loop T hT T.size k 0 (by omega) hk (by intro j hj; omega)
end Go.Proofs.YtofdpgcnconibaaGreatDoor.TargetP
