import Derived.Test.YtofdpgcnconibaaGreatDoorFew
import Derived.Shelf.Abstract
import Derived.Laws.EntriesVeiled
import Derived.Lib.SliceRun
set_option linter.unusedVariables false
set_option linter.unusedSimpArgs false
/-! A call through a temporary that holds a known function value. -/
namespace Go.Proofs.YtofdpgcnconibaaGreatDoor.Plain
open Go.RowKit Go.Proofs.YtofdpgcnconibaaGreatDoorW.PrintWords Go.Proofs.YtofdpgcnconibaaGreatDoorW.PrintLast
section
variable {P : Program} {ops : Array Oper} {Q : Exit → Act → World → Prop} {rest : List Oper} {o oi : Oper} {a : Act} {W w : World}
end
/-! Texts compared, ags the print spells it. -/
theorem bytesLess_flip : ∀ a b : List UInt8, (!(Op.bytesLess a b || a == b)) = Op.bytesLess b a
  | [], [] => rfl
  | [], _ :: _ => rfl
  | _ :: _, [] => rfl
  | x :: l, y :: m => by
    have ih := bytesLess_flip l m
    have hb : (x :: l == y :: m) = (x == y && l == m) := rfl
    rw [hb]
    simp only [Op.bytesLess]
    by_cases h : x = y
    · subst h
      have hx : decide (x < x) = false := by simp
      have hq : (x == x) = true := by simp
      rw [hx, hq, Bool.false_or, Bool.false_or, Bool.true_and, Bool.true_and, Bool.true_and]
      exact ih
    · have hq : (x == y) = false := by simpa using h
      have hq2 : (y == x) = false := by simpa using fun e => h e.symm
      rw [hq, hq2, Bool.false_and, Bool.false_and, Bool.false_and, Bool.or_false, Bool.or_false, Bool.or_false]
      have hn : x.toNat ≠ y.toNat := fun e => h (UInt8.toNat_inj.mp e)
      by_cases hl : x < y
      · have hl' := UInt8.lt_iff_toNat_lt.mp hl
        have : ¬ y < x := fun h' => by have := UInt8.lt_iff_toNat_lt.mp h'; omega
        simp [hl, this]
      · have : y < x := UInt8.lt_iff_toNat_lt.mpr (by have : ¬ x.toNat < y.toNat := fun h' => hl (UInt8.lt_iff_toNat_lt.mpr h'); omega)
        simp [hl, this]
theorem lit_byte (c : UInt8) (h : 0 < (⟨#[c]⟩ : ByteArray).size) : (⟨#[c]⟩ : ByteArray)[0]'h = c := rfl
theorem wrap_in {x : Int} (h0 : -9223372036854775808 ≤ x) (h1 : x ≤ 9223372036854775807) : wrap64 x = x := by unfold wrap64; omega
/-- The place of the first element of which p holds, counted from i on; -1: there is none. -/
def idxB {α : Type} (p : α → Bool) : List α → Int → Int
  | [], _ => -1
  | x :: r, i => if p x = true then i else idxB p r (i + 1)
/-- Texts that rise. -/
def risesB : List ByteArray → Bool
  | a :: b :: r => Op.bytesLess a.toList b.toList && risesB (b :: r)
  | _ => true
theorem binOp_leq_s (t : TypeId) (a b : ByteArray) : binOp .leq t (.string a) (.string b) = pure (.bool !(Op.bytesLess b.toList a.toList)) := by
  have h := bytesLess_flip a.toList b.toList
  have h2 : (Op.bytesLess a.toList b.toList || a.toList == b.toList) = !(Op.bytesLess b.toList a.toList) := by rw [← h, Bool.not_not]
  simp [binOp, Op.stringOp, h2]
theorem binOp_gtr_s (t : TypeId) (a b : ByteArray) : binOp .gtr t (.string a) (.string b) = pure (.bool (Op.bytesLess b.toList a.toList)) := by
  have h := bytesLess_flip a.toList b.toList
  rw [← h]
  simp [binOp, Op.stringOp]
theorem binOp_geq_s (t : TypeId) (a b : ByteArray) : binOp .geq t (.string a) (.string b) = pure (.bool !(Op.bytesLess a.toList b.toList)) := by simp [binOp, Op.stringOp]
end Go.Proofs.YtofdpgcnconibaaGreatDoor.Plain
