import Derived.Test.YtofdpgcnconibaaGreatDoorPAx20
import Derived.Test.YtofdpgcnconibaaGreatDoorSim
set_option linter.unusedVariables false
set_option linter.unusedSimpArgs false
/-! coppiceref02's writers: what they write. -/
namespace Go.Proofs.YtofdpgcnconibaaGreatDoor.Ref02P
open Go.RowKit Go.Proofs.YtofdpgcnconibaaGreatDoor.PA Go.Proofs.YtofdpgcnconibaaGreatDoorW.PrintWords Go.Proofs.YtofdpgcnconibaaGreatDoorW.PrintLast Go.Proofs.YtofdpgcnconibaaGreatDoorW.PrintMore
open Go.Proofs.YtofdpgcnconibaaGreatDoor.Plain
theorem step (k : Nat) (x c : Int) (l : List Int) (h0 : 0 ≤ c) (h1 : c ≤ 56) (hl : l.length ≤ 8) :
    coppiceref02_Fixed.l0 (k + 1) x (strOfNums l) c = coppiceref02_Fixed.l0 k x (strOfNums (l ++ [x / 2 ^ c.toNat % 256])) (c - 8) := by
  rw [coppiceref02_Fixed.l0, if_pos (by omega), if_pos h0]
  simp only [Option.bind_some]
  rw [if_pos (by rw [strOfNums_size, strOfNums_size]; simp; omega), strOfNums_append]
  have e : wrap64 (c - 8) = c - 8 := by unfold wrap64; omega
  have e2 : shr .u64 x c = x / 2 ^ c.toNat := by unfold shr; rw [Nat.min_eq_left (by show _ ≤ 64; omega)]
  rw [e, e2]
theorem refFixed (k : Nat) (hk : 8 < k) (a : Int) (h : 0 ≤ a ∧ a < 18446744073709551616) : coppiceref02_Fixed.f k a = some (strOfNums (fixedNums a)) := by
  obtain ⟨k, rfl⟩ : ∃ m, k = m + 9 := ⟨k - 9, by omega⟩
  unfold coppiceref02_Fixed.f
  have e0 : (⟨#[]⟩ : ByteArray) = strOfNums [] := rfl
  rw [e0, step (k + 8) a 56 [] (by omega) (by omega) (by simp), step (k + 7) _ _ _ (by omega) (by omega) (by simp), step (k + 6) _ _ _ (by omega) (by omega) (by simp), step (k + 5) _ _ _ (by omega) (by omega) (by simp), step (k + 4) _ _ _ (by omega) (by omega) (by simp),
    step (k + 3) _ _ _ (by omega) (by omega) (by simp), step (k + 2) _ _ _ (by omega) (by omega) (by simp), step (k + 1) _ _ _ (by omega) (by omega) (by simp)]
  rw [coppiceref02_Fixed.l0, if_neg (by omega)]
  congr 2
  simp only [fixedNums, List.nil_append, List.cons_append]
  have e1 : a / 2 ^ (56 : Int).toNat % 256 = a / 72057594037927936 := by
    show a / 72057594037927936 % 256 = _
    omega
  rw [e1]
  simp
end Go.Proofs.YtofdpgcnconibaaGreatDoor.Ref02P
