import Derived.Test.YtofdpgcnconibaaGreatDoorPAx12
import Derived.Test.YtofdpgcnconibaaGreatDoorBytes
/-! Commands: what is told; what is great. -/
set_option linter.unusedVariables false
set_option linter.unusedSimpArgs false
namespace Go.Proofs.YtofdpgcnconibaaGreatDoor.CmdP
open Go.RowKit Go.Proofs.YtofdpgcnconibaaGreatDoor.PA Go.Proofs.YtofdpgcnconibaaGreatDoorW.PrintWords Go.Proofs.YtofdpgcnconibaaGreatDoorW.PrintLast Go.Proofs.YtofdpgcnconibaaGreatDoorW.PrintMore
open Go.Proofs.YtofdpgcnconibaaGreatDoor.Plain
/-- Great, of one command. -/
theorem great_one (c : Int) (p t m : ByteArray) (n : Int) (d : ByteArray) (k : Nat) (hk : 2 ≤ k) :
    coppiceref19_Great.f k [⟨c, p, t, m, n, d⟩] = some true ∨ (coppiceref19_Great.f k [⟨c, p, t, m, n, d⟩] = some false ∧ p.size ≤ 1500 ∧ t.size ≤ 1500 ∧ m.size ≤ 400 ∧ d.size ≤ 400) := by
  obtain ⟨k, rfl⟩ : ∃ q, k = q + 2 := ⟨k - 2, by omega⟩
  unfold coppiceref19_Great.f
  have hl : ((([⟨c, p, t, m, n, d⟩] : List S23).length : Nat) : Int) = 1 := rfl
  have hr : rd_T23 [⟨c, p, t, m, n, d⟩] 0 = ⟨c, p, t, m, n, d⟩ := rfl
  have hw : wrap64 (0 + 1) = 1 := by unfold wrap64; omega
  rw [hl, if_neg (by decide)]
  simp only [coppiceref19_Great.l0, hl, hr, hw]
  rw [if_pos (by decide), if_pos (by decide)]
  by_cases h1 : (p.size : Int) > 1500
  · rw [if_pos h1]; exact .inl rfl
  by_cases h2 : (t.size : Int) > 1500
  · rw [if_neg h1, if_pos h2]; exact .inl rfl
  by_cases h3 : (m.size : Int) > 400
  · rw [if_neg h1, if_neg h2, if_pos h3]; exact .inl rfl
  by_cases h4 : (d.size : Int) > 400
  · rw [if_neg h1, if_neg h2, if_neg h3, if_pos h4]; exact .inl rfl
  rw [if_neg h1, if_neg h2, if_neg h3, if_neg h4, if_neg (by decide)]
  exact .inr ⟨rfl, by omega, by omega, by omega, by omega⟩
end Go.Proofs.YtofdpgcnconibaaGreatDoor.CmdP
