import Derived.Test.YtofdpgcnconibaaGreatDoorPAx2
import Derived.Test.YtofdpgcnconibaaGreatDoorPAx7
import Derived.Test.YtofdpgcnconibaaGreatDoorPAx8
import Derived.Test.YtofdpgcnconibaaGreatDoorPathLo
import Derived.Test.YtofdpgcnconibaaGreatDoorTarget
/-! Commands: the program's forms and checks, plain. -/
set_option linter.unusedVariables false
set_option linter.unusedSimpArgs false
namespace Go.Proofs.YtofdpgcnconibaaGreatDoor.CmdP
open Go.RowKit Go.Proofs.YtofdpgcnconibaaGreatDoor.PA Go.Proofs.YtofdpgcnconibaaGreatDoorW.PrintWords Go.Proofs.YtofdpgcnconibaaGreatDoorW.PrintLast Go.Proofs.YtofdpgcnconibaaGreatDoorW.PrintMore
open Go.Proofs.YtofdpgcnconibaaGreatDoor.Plain Go.Proofs.YtofdpgcnconibaaGreatDoor.PathP Go.Proofs.YtofdpgcnconibaaGreatDoor.TargetP
/-- A kind's form: to, name, data, n, least, most; is there one? -/
def formR (c : Int) : Bool × Bool × Bool × Bool × Int × Int × Bool :=
  if c = 3 then (false, false, true, true, 2, 1099511627776, true) else
  if c = 1 ∨ c = 2 then (false, false, false, true, 2, 1099511627776, true) else
  if c = 4 ∨ c = 5 then (true, false, false, false, 0, 0, true) else
  if c = 6 ∨ c = 7 then (false, false, false, false, 0, 0, true) else
  if c = 8 then (false, false, false, true, 0, 4611686018427387904, true) else
  if c = 9 then (false, false, true, true, 0, 72057594037927935, true) else
  if c = 10 then (false, false, false, true, 1, 72057594037927935, true) else
  if c = 11 then (false, false, false, true, 0, 72057594037927935, true) else
  if c = 12 then (false, true, true, false, 0, 0, true) else
  if c = 13 then (false, true, false, false, 0, 0, true) else
  if c = 14 then (false, false, false, true, 0, 4095, true) else
  if c = 15 then (false, false, false, true, -9223372036854775808, 9223372036854775807, true) else
  if c = 16 then (false, false, false, true, 2, 1099511627777, true) else (false, false, false, false, 0, 0, false)
theorem kinds (c : Int) : c = 1 ∨ c = 2 ∨ c = 3 ∨ c = 4 ∨ c = 5 ∨ c = 6 ∨ c = 7 ∨ c = 8 ∨ c = 9 ∨ c = 10 ∨ c = 11 ∨ c = 12 ∨ c = 13 ∨ c = 14 ∨ c = 15 ∨ c = 16 ∨ (c < 1 ∨ 16 < c) := by omega
theorem of_f (c : Int) (k : Nat) (hk : 5 ≤ k) : cmd_of.f k c = some (formR c) := by
  obtain ⟨k, rfl⟩ : ∃ q, k = q + 5 := ⟨k - 5, by omega⟩
  rcases kinds c with rfl | rfl | rfl | rfl | rfl | rfl | rfl | rfl | rfl | rfl | rfl | rfl | rfl | rfl | rfl | rfl | h
  case inr.inr.inr.inr.inr.inr.inr.inr.inr.inr.inr.inr.inr.inr.inr.inr =>
    have n1 : c ≠ 1 := by omega
    have n2 : c ≠ 2 := by omega
    have n3 : c ≠ 3 := by omega
    have n4 : c ≠ 4 := by omega
    have n5 : c ≠ 5 := by omega
    have n6 : c ≠ 6 := by omega
    have n7 : c ≠ 7 := by omega
    have n8 : c ≠ 8 := by omega
    have n9 : c ≠ 9 := by omega
    have n10 : c ≠ 10 := by omega
    have n11 : c ≠ 11 := by omega
    have n12 : c ≠ 12 := by omega
    have n13 : c ≠ 13 := by omega
    have n14 : c ≠ 14 := by omega
    have n15 : c ≠ 15 := by omega
    have n16 : c ≠ 16 := by omega
    simp [cmd_of.f, cmd_of.j0, cmd_of.j1, cmd_of.j2, formR, *]
  all_goals (simp [cmd_of.f, cmd_of.j0, cmd_of.j1, cmd_of.j2, formR])
/-- A loose path. -/
def looseOk (s : ByteArray) : Bool := (looseR s).2 == 0
theorem cloose_f (s : ByteArray) (hs : s.size ≤ 1000000) (k : Nat) (hk : s.size + 10 ≤ k) : cmd_loose.f k s = some (looseOk s) := by
  unfold cmd_loose.f
  rw [ploose_f s hs k hk]; rfl
/-- Data that fit. -/
def fitsB (c : Int) (d : ByteArray) : Bool :=
  if c = 3 then tgt d else if c = 9 then decide (d.size = 64) else if c = 12 then decide (d.size ≤ 120) else decide (d.size = 0)
theorem fits_f (c : Int) (p t m : ByteArray) (n : Int) (d : ByteArray) : cmd_fits.f c p t m n d = some (fitsB c d) := by
  unfold cmd_fits.f fitsB
  by_cases h3 : c = 3
  · rw [if_pos h3, if_pos h3, target_ok]; rfl
  · rw [if_neg h3, if_neg h3]
    by_cases h9 : c = 9
    · rw [if_pos h9, if_pos h9]; congr 1; rw [Bool.eq_iff_iff]; simp; omega
    · rw [if_neg h9, if_neg h9]
      by_cases h12 : c = 12
      · rw [if_pos h12, if_pos h12]; congr 1; rw [Bool.eq_iff_iff]; simp; omega
      · rw [if_neg h12, if_neg h12]
        congr 1
        rw [Bool.eq_iff_iff, beq_iff_eq, decide_eq_true_iff]
        exact nil_iff d
/-- A command of a form. -/
def chkB (o : Bool × Bool × Bool × Bool × Int × Int × Bool) (c : Int) (p t m : ByteArray) (n : Int) (d : ByteArray) : Bool :=
  o.2.2.2.2.2.2 && ((if c = 16 then decide (p.size = 0) else looseOk p) && (fitsB c d && ((if o.1 = true then looseOk t else decide (t.size = 0)) &&
    ((if o.2.1 = true then nameB m else decide (m.size = 0)) && (decide (o.2.2.2.2.1 ≤ n) && decide (n ≤ o.2.2.2.2.2.1))))))
def goodB (c : Int) (p t m : ByteArray) (n : Int) (d : ByteArray) : Bool := chkB (formR c) c p t m n d
theorem nil_beq (s : ByteArray) : (s.toList == ([] : List UInt8)) = decide (s.size = 0) := by
  rw [Bool.eq_iff_iff, beq_iff_eq, decide_eq_true_iff]; exact nil_iff s
theorem nil_bne (s : ByteArray) : (s.toList != ([] : List UInt8)) = !decide (s.size = 0) := by
  show (!(s.toList == ([] : List UInt8))) = _
  rw [nil_beq]
theorem check_f (c : Int) (p t m : ByteArray) (n : Int) (d : ByteArray) (N : Nat) (hp : p.size ≤ N) (ht : t.size ≤ N) (hN : N ≤ 1000000) (k : Nat) (hk : N + 30 ≤ k) :
    cmd_check.f k c p t m n d = some (if goodB c p t m n d = true then none else some 190) := by
  obtain ⟨k, rfl⟩ : ∃ q, k = q + 8 := ⟨k - 8, by omega⟩
  unfold cmd_check.f goodB chkB
  rw [of_f c _ (by omega), Option.bind_some, nil_beq]
  obtain ⟨o1, o2, o3, o4, o5, o6, o7⟩ := formR c
  have key : ∀ b : Bool, cmd_check.j0 (k + 8) o7 b c p t m n d o1 o2 o3 o4 o5 o6 = some (if (o7 && (b && (fitsB c d && ((if o1 = true then looseOk t else decide (t.size = 0)) &&
      ((if o2 = true then nameB m else decide (m.size = 0)) && (decide (o5 ≤ n) && decide (n ≤ o6))))))) = true then none else some 190) := by
    intro b
    simp only [cmd_check.j0, cmd_check.j1, cmd_check.j2, cmd_check.j3, cmd_check.j4, cmd_check.j5, fits_f, cloose_f t (by omega) (k + 6) (by omega), name_f, Option.bind_some, nil_bne]
    rcases Int.lt_or_le n o5 with hn | hn
    · have e1 : decide (o5 ≤ n) = false := decide_eq_false (by omega)
      rw [e1, if_pos hn]
      cases o7 <;> cases b <;> cases fitsB c d <;> cases o1 <;> cases o2 <;> cases looseOk t <;> cases decide (t.size = 0) <;> cases nameB m <;> cases decide (m.size = 0) <;> rfl
    · have e1 : decide (o5 ≤ n) = true := decide_eq_true hn
      rw [e1, if_neg (by omega : ¬ n < o5)]
      rcases Int.lt_or_le o6 n with hm | hm
      · have e2 : decide (n ≤ o6) = false := decide_eq_false (by omega)
        rw [e2, if_pos (by omega : n > o6)]
        cases o7 <;> cases b <;> cases fitsB c d <;> cases o1 <;> cases o2 <;> cases looseOk t <;> cases decide (t.size = 0) <;> cases nameB m <;> cases decide (m.size = 0) <;> rfl
      · have e2 : decide (n ≤ o6) = true := decide_eq_true hm
        rw [e2, if_neg (by omega : ¬ n > o6)]
        cases o7 <;> cases b <;> cases fitsB c d <;> cases o1 <;> cases o2 <;> cases looseOk t <;> cases decide (t.size = 0) <;> cases nameB m <;> cases decide (m.size = 0) <;> rfl
  by_cases h16 : c = 16
  · rw [if_pos h16, key, if_pos h16]
  · rw [if_neg h16, cloose_f p (by omega) _ (by omega), Option.bind_some, key, if_neg h16]
end Go.Proofs.YtofdpgcnconibaaGreatDoor.CmdP
