-- WRITTEN BY a program of this session (mergeset.py): several texts as one
import Derived.Test.YtofdpgcnconibaaGreatDoorPAx3
import Derived.Test.YtofdpgcnconibaaGreatDoorPAx7
import Derived.Test.YtofdpgcnconibaaGreatDoorPAx8
import Derived.Test.YtofdpgcnconibaaGreatDoorPathLp
import Derived.Test.YtofdpgcnconibaaGreatDoorTarget
import Derived.Test.YtofdpgcnconibaaGreatDoorPAx18
import Derived.Test.YtofdpgcnconibaaGreatDoorPAx19
import Derived.Test.YtofdpgcnconibaaGreatDoorTargetR
import Derived.Test.YtofdpgcnconibaaGreatDoorPAx10
import Derived.Test.YtofdpgcnconibaaGreatDoorPAx9
import Derived.Test.YtofdpgcnconibaaGreatDoorPAx20
import Derived.Test.YtofdpgcnconibaaGreatDoorPAx21
import Derived.Test.YtofdpgcnconibaaGreatDoorRef02
import Derived.Test.YtofdpgcnconibaaGreatDoorPAx24
import Derived.Test.YtofdpgcnconibaaGreatDoorPAx26
import Derived.Test.YtofdpgcnconibaaGreatDoorOwn
import Derived.Test.YtofdpgcnconibaaGreatDoorPAx11
import Derived.Test.YtofdpgcnconibaaGreatDoorPAx12
import Derived.Test.YtofdpgcnconibaaGreatDoorPAx22
import Derived.Test.YtofdpgcnconibaaGreatDoorPAx31
import Derived.Test.YtofdpgcnconibaaGreatDoorPAx32
import Derived.Test.YtofdpgcnconibaaGreatDoorPAx33
import Derived.Test.YtofdpgcnconibaaGreatDoorSim
import Derived.Test.YtofdpgcnconibaaGreatDoorPAx27
set_option linter.unusedVariables false
set_option linter.unusedSimpArgs false
/-! Commands: the program's forms and checks, plain. -/
set_option linter.unusedVariables false
set_option linter.unusedSimpArgs false
namespace Go.Proofs.YtofdpgcnconibaaGreatDoor.CmdP
open Go.RowKit Go.Proofs.YtofdpgcnconibaaGreatDoor.PA Go.Proofs.YtofdpgcnconibaaGreatDoorW.PrintWords Go.Proofs.YtofdpgcnconibaaGreatDoorW.PrintLast Go.Proofs.YtofdpgcnconibaaGreatDoorW.PrintMore
open Go.Proofs.YtofdpgcnconibaaGreatDoor.Plain Go.Proofs.YtofdpgcnconibaaGreatDoor.PathP Go.Proofs.YtofdpgcnconibaaGreatDoor.TargetP
/-- A kind's form: to, name, data, n, least, most; is there one? -/
def formR (c : Int) : Bool × Bool × Bool × Bool × Int × Int × Bool :=
  if c = 3 then (false, false, true, true, 2, 1099511627776, true) else
  if c = 1 ∨ c = 2 then (false, false, false, true, 2, 1099511627776, true) else
  if c = 4 ∨ c = 5 then (true, false, false, false, 0, 0, true) else
  if c = 6 ∨ c = 7 then (false, false, false, false, 0, 0, true) else
  if c = 8 then (false, false, false, true, 0, 4611686018427387904, true) else
  if c = 9 then (false, false, true, true, 0, 72057594037927935, true) else
  if c = 10 then (false, false, false, true, 1, 72057594037927935, true) else
  if c = 11 then (false, false, false, true, 0, 72057594037927935, true) else
  if c = 12 then (false, true, true, false, 0, 0, true) else
  if c = 13 then (false, true, false, false, 0, 0, true) else
  if c = 14 then (false, false, false, true, 0, 4095, true) else
  if c = 15 then (false, false, false, true, -9223372036854775808, 9223372036854775807, true) else
  if c = 16 then (false, false, false, true, 2, 1099511627777, true) else (false, false, false, false, 0, 0, false)
theorem kinds (c : Int) : c = 1 ∨ c = 2 ∨ c = 3 ∨ c = 4 ∨ c = 5 ∨ c = 6 ∨ c = 7 ∨ c = 8 ∨ c = 9 ∨ c = 10 ∨ c = 11 ∨ c = 12 ∨ c = 13 ∨ c = 14 ∨ c = 15 ∨ c = 16 ∨ (c < 1 ∨ 16 < c) := by omega
theorem of_f (c : Int) (k : Nat) (hk : 5 ≤ k) : cmd_of.f k c = some (formR c) := rfl
/-- A loose path. -/
def looseOk (s : ByteArray) : Bool := (looseR s).2 == 0
theorem cloose_f (s : ByteArray) (hs : s.size ≤ 1000000) (k : Nat) (hk : s.size + 10 ≤ k) : cmd_loose.f k s = some (looseOk s) := by
  unfold cmd_loose.f
  rw [ploose_f s hs k hk]; rfl
/-- Data that fit. -/
def fitsB (c : Int) (d : ByteArray) : Bool :=
  if c = 3 then tgt d else if c = 9 then decide (d.size = 64) else if c = 12 then decide (d.size ≤ 120) else decide (d.size = 0)
theorem fits_f (c : Int) (p t m : ByteArray) (n : Int) (d : ByteArray) : cmd_fits.f c p t m n d = some (fitsB c d) := by
  unfold cmd_fits.f fitsB
  by_cases h3 : c = 3
  · rw [if_pos h3, if_pos h3, target_ok]; rfl
  · rw [if_neg h3, if_neg h3]
    by_cases h9 : c = 9
    · rw [if_pos h9, if_pos h9]; congr 1; rw [Bool.eq_iff_iff]; simp; omega
    · rw [if_neg h9, if_neg h9]
      by_cases h12 : c = 12
      · rw [if_pos h12, if_pos h12]; congr 1; rw [Bool.eq_iff_iff]; simp; omega
      · rw [if_neg h12, if_neg h12]
        congr 1
        rw [Bool.eq_iff_iff, beq_iff_eq, decide_eq_true_iff]
        exact nil_iff d
/-- A command of a form. -/
def chkB (o : Bool × Bool × Bool × Bool × Int × Int × Bool) (c : Int) (p t m : ByteArray) (n : Int) (d : ByteArray) : Bool :=
  o.2.2.2.2.2.2 && ((if c = 16 then decide (p.size = 0) else looseOk p) && (fitsB c d && ((if o.1 = true then looseOk t else decide (t.size = 0)) &&
    ((if o.2.1 = true then nameB m else decide (m.size = 0)) && (decide (o.2.2.2.2.1 ≤ n) && decide (n ≤ o.2.2.2.2.2.1))))))
def goodB (c : Int) (p t m : ByteArray) (n : Int) (d : ByteArray) : Bool := chkB (formR c) c p t m n d
theorem nil_beq (s : ByteArray) : (s.toList == ([] : List UInt8)) = decide (s.size = 0) := by
  rw [Bool.eq_iff_iff, beq_iff_eq, decide_eq_true_iff]; exact nil_iff s
theorem nil_bne (s : ByteArray) : (s.toList != ([] : List UInt8)) = !decide (s.size = 0) := by
  show (!(s.toList == ([] : List UInt8))) = _
  rw [nil_beq]
theorem check_f (c : Int) (p t m : ByteArray) (n : Int) (d : ByteArray) (N : Nat) (hp : p.size ≤ N) (ht : t.size ≤ N) (hN : N ≤ 1000000) (k : Nat) (hk : N + 30 ≤ k) :
    cmd_check.f k c p t m n d = some (if goodB c p t m n d = true then none else some 190) := by
  unfold cmd_check.f goodB chkB
  rw [of_f c _ (by omega), Option.bind_some, cloose_f p (by omega) k (by omega), Option.bind_some, cloose_f t (by omega) k (by omega), Option.bind_some, fits_f, Option.bind_some, name_f, Option.bind_some]
  unfold cmd_check.ok
  rw [nil_beq, nil_beq, nil_beq]
end Go.Proofs.YtofdpgcnconibaaGreatDoor.CmdP
/-! Commands: the document's Right. -/
set_option linter.unusedVariables false
set_option linter.unusedSimpArgs false
namespace Go.Proofs.YtofdpgcnconibaaGreatDoor.CmdP
open Go.RowKit Go.Proofs.YtofdpgcnconibaaGreatDoor.PA Go.Proofs.YtofdpgcnconibaaGreatDoorW.PrintWords Go.Proofs.YtofdpgcnconibaaGreatDoorW.PrintLast Go.Proofs.YtofdpgcnconibaaGreatDoorW.PrintMore
open Go.Proofs.YtofdpgcnconibaaGreatDoor.Plain Go.Proofs.YtofdpgcnconibaaGreatDoor.PathP Go.Proofs.YtofdpgcnconibaaGreatDoor.TargetP
theorem has_f (c : Int) (hc : 1 ≤ c ∧ c ≤ 16) : coppiceref19_Has.f c = some ((formR c).1, (formR c).2.1, (formR c).2.2.2.1, (formR c).2.2.1) := by
  rcases kinds c with rfl | rfl | rfl | rfl | rfl | rfl | rfl | rfl | rfl | rfl | rfl | rfl | rfl | rfl | rfl | rfl | h
  case inr.inr.inr.inr.inr.inr.inr.inr.inr.inr.inr.inr.inr.inr.inr.inr => omega
  all_goals (simp [coppiceref19_Has.f, formR])
/-- The bounds of N, where a kind has one; all numbers where it hasn't. -/
def boundsR (c : Int) : Int × Int := if (formR c).2.2.2.1 = true then ((formR c).2.2.2.2.1, (formR c).2.2.2.2.2.1) else (-9223372036854775808, 9223372036854775807)
theorem bounds_f (c : Int) (hc : 1 ≤ c ∧ c ≤ 16) (k : Nat) (hk : 3 ≤ k) : coppiceref19_bounds.f k c = some (boundsR c) := by
  obtain ⟨k, rfl⟩ : ∃ q, k = q + 3 := ⟨k - 3, by omega⟩
  rcases kinds c with rfl | rfl | rfl | rfl | rfl | rfl | rfl | rfl | rfl | rfl | rfl | rfl | rfl | rfl | rfl | rfl | h
  case inr.inr.inr.inr.inr.inr.inr.inr.inr.inr.inr.inr.inr.inr.inr.inr => omega
  all_goals (simp [coppiceref19_bounds.f, coppiceref19_bounds.j0, coppiceref19_bounds.j1, boundsR, formR])
theorem rrloose_f (s : ByteArray) (hs : s.size ≤ 1000000) (k : Nat) (hk : 2 * s.size + 50 ≤ k) : coppiceref19_loose.f k s = some (looseOk s) := by
  unfold coppiceref19_loose.f
  rw [rloose_f s hs k hk]; rfl
/-- The document's word for data. -/
def dataB (c : Int) (d : ByteArray) : Bool := (c != 3 || tgt d) && ((c != 9 || decide (d.size = 64)) && (c != 12 || decide (d.size ≤ 120)))
/-- The document's command, of a form. -/
def rightB (o1 o2 o3 o4 : Bool) (b1 b2 : Int) (c : Int) (p t m : ByteArray) (n : Int) (d : ByteArray) : Bool :=
  (if c = 16 then decide (p.size = 0) else looseOk p) && ((if o1 = true then looseOk t else decide (t.size = 0)) && ((if o2 = true then nameB m else decide (m.size = 0)) &&
    ((o3 || decide (n = 0)) && ((o4 || decide (d.size = 0)) && ((!o3 || (decide (b1 ≤ n) && decide (n ≤ b2))) && dataB c d)))))
theorem right_j2 (k : Nat) (o3 x : Bool) (c : Int) (hc : 1 ≤ c ∧ c ≤ 16) (p t m : ByteArray) (n : Int) (d : ByteArray) (hd : d.size < k) (hd2 : d.size ≤ 1000000) (hk : 5 ≤ k) :
    coppiceref19_Right.j2 (k + 1) o3 x c p t m n d = some (!x && ((!o3 || (decide ((boundsR c).1 ≤ n) && decide (n ≤ (boundsR c).2))) && dataB c d)) := by
  simp only [coppiceref19_Right.j2, bounds_f c hc k (by omega), rtarget_ok d (by omega) k hd, Option.bind_some]
  have key : (if c = 3 then (if tgt d = true then (if c = 9 then (if (d.size : Int) = 64 then (if c = 12 then some (!(decide ((d.size : Int) > 120))) else some (!false)) else some (!true)) else if c = 12 then some (!(decide ((d.size : Int) > 120))) else some (!false)) else some (!true))
      else if c = 9 then (if (d.size : Int) = 64 then (if c = 12 then some (!(decide ((d.size : Int) > 120))) else some (!false)) else some (!true)) else if c = 12 then some (!(decide ((d.size : Int) > 120))) else some (!false)) = some (dataB c d) := by
    have e64 : ((d.size : Int) = 64) = (d.size = 64) := propext (by omega)
    have e120 : decide ((d.size : Int) > 120) = !decide (d.size ≤ 120) := by rw [Bool.eq_iff_iff]; simp; omega
    rw [e120]
    simp only [e64]
    unfold dataB
    by_cases h3 : c = 3
    · subst h3; simp; cases tgt d <;> simp
    · by_cases h9 : c = 9
      · subst h9; simp; by_cases h : d.size = 64 <;> simp [h]
      · by_cases h12 : c = 12
        · subst h12; simp
        · have e3 : (c != 3) = true := by simp [h3]
          have e9 : (c != 9) = true := by simp [h9]
          have e12 : (c != 12) = true := by simp [h12]
          rw [e3, e9, e12]; simp [h3, h9, h12]
  rw [key]
  cases x with
  | true => rfl
  | false =>
    cases o3 with
    | false => simp
    | true =>
      rcases Int.lt_or_le n (boundsR c).1 with h1 | h1
      · simp [h1, Int.not_le.2 h1]
      · rcases Int.lt_or_le (boundsR c).2 n with h2 | h2
        · simp [h1, Int.not_lt.2 h1, h2, Int.not_le.2 h2]
        · simp [h1, Int.not_lt.2 h1, h2, Int.not_lt.2 h2]
theorem right_j1 (k : Nat) (o2 o3 o4 x : Bool) (c : Int) (hc : 1 ≤ c ∧ c ≤ 16) (p t m : ByteArray) (n : Int) (d : ByteArray) (hm : m.size + 10 ≤ k) (hm2 : m.size ≤ 1000000) (hd : d.size + 10 ≤ k) (hd2 : d.size ≤ 1000000) :
    coppiceref19_Right.j1 (k + 1) o2 o3 o4 x c p t m n d = some (!x && ((if o2 = true then nameB m else decide (m.size = 0)) &&
      ((o3 || decide (n = 0)) && ((o4 || decide (d.size = 0)) && ((!o3 || (decide ((boundsR c).1 ≤ n) && decide (n ≤ (boundsR c).2))) && dataB c d))))) := by
  obtain ⟨k, rfl⟩ : ∃ q, k = q + 1 := ⟨k - 1, by omega⟩
  simp only [coppiceref19_Right.j1, rname_f m hm2 (k + 1) (by omega), Option.bind_some, nil_bne, right_j2 k _ _ c hc p t m n d (by omega) hd2 (by omega)]
  have em : (m.toList = ([] : List UInt8)) = (m.size = 0) := propext (nil_iff m)
  simp only [em]
  generalize ((!o3 || (decide ((boundsR c).1 ≤ n) && decide (n ≤ (boundsR c).2))) && dataB c d) = z
  by_cases hn : n = 0 <;> by_cases hz : m.size = 0 <;> simp only [hn, hz] <;> cases x <;> cases o2 <;> cases o3 <;> cases o4 <;> cases nameB m <;> simp
theorem right_f (c : Int) (p t m : ByteArray) (n : Int) (d : ByteArray) (N : Nat) (hp : p.size ≤ N) (ht : t.size ≤ N) (hm : m.size ≤ N) (hd : d.size ≤ N) (hN : N ≤ 1000000) (k : Nat) (hk : 2 * N + 60 ≤ k) :
    coppiceref19_Right.f k c p t m n d = some (decide (1 ≤ c ∧ c ≤ 16) && rightB (formR c).1 (formR c).2.1 (formR c).2.2.2.1 (formR c).2.2.1 (boundsR c).1 (boundsR c).2 c p t m n d) := by
  obtain ⟨k, rfl⟩ : ∃ q, k = q + 3 := ⟨k - 3, by omega⟩
  unfold coppiceref19_Right.f
  by_cases hc : 1 ≤ c ∧ c ≤ 16
  · rw [if_neg (by omega), decide_eq_false (by omega), decide_eq_true hc, Bool.true_and]
    have et : (t.toList != ([] : List UInt8)) = !decide (t.size = 0) := nil_bne t
    have ep : (p.toList = ([] : List UInt8)) = (p.size = 0) := propext (nil_iff p)
    simp only [coppiceref19_Right.j0, has_f c hc, rrloose_f p (by omega) (k + 2) (by omega), rrloose_f t (by omega) (k + 2) (by omega), Option.bind_some, et, ep, right_j1 (k + 1) _ _ _ _ c hc p t m n d (by omega) (by omega) (by omega) (by omega)]
    unfold rightB
    generalize ((if (formR c).2.1 = true then nameB m else decide (m.size = 0)) && ((((formR c).2.2.2.1 || decide (n = 0)) && (((formR c).2.2.1 || decide (d.size = 0)) && ((!(formR c).2.2.2.1 || (decide ((boundsR c).1 ≤ n) && decide (n ≤ (boundsR c).2))) && dataB c d))))) = z
    generalize (formR c).1 = o1
    generalize decide (t.size = 0) = q1
    generalize looseOk t = q2
    generalize looseOk p = q3
    by_cases h16 : c = 16 <;> by_cases hz : p.size = 0 <;> simp only [h16, hz, if_true, if_false, decide_true, decide_false] <;> cases o1 <;> cases q1 <;> cases q2 <;> cases q3 <;> simp
  · rw [decide_eq_false hc, Bool.false_and]
    by_cases h : c < 1
    · rw [if_pos h]; rfl
    · rw [if_neg h, decide_eq_true (by omega)]; rfl
/-- The document's word is the program's. -/
theorem right_good (c : Int) (p t m : ByteArray) (n : Int) (hn : -9223372036854775808 ≤ n ∧ n ≤ 9223372036854775807) (d : ByteArray) :
    (decide (1 ≤ c ∧ c ≤ 16) && rightB (formR c).1 (formR c).2.1 (formR c).2.2.2.1 (formR c).2.2.1 (boundsR c).1 (boundsR c).2 c p t m n d) = goodB c p t m n d := by
  have l0 : decide (-9223372036854775808 ≤ n) = true := decide_eq_true hn.1
  have l1 : decide (n ≤ 9223372036854775807) = true := decide_eq_true hn.2
  have e0 : decide (n = 0) = (decide (0 ≤ n) && decide (n ≤ 0)) := by rw [Bool.eq_iff_iff]; simp; omega
  unfold goodB chkB rightB
  rcases kinds c with rfl | rfl | rfl | rfl | rfl | rfl | rfl | rfl | rfl | rfl | rfl | rfl | rfl | rfl | rfl | rfl | h
  case inr.inr.inr.inr.inr.inr.inr.inr.inr.inr.inr.inr.inr.inr.inr.inr =>
    have hf : (formR c).2.2.2.2.2.2 = false := by
      unfold formR
      repeat rw [if_neg (by omega)]
    rw [hf, decide_eq_false (by omega)]; rfl
  all_goals
    simp only [formR, boundsR, dataB, fitsB]
    generalize looseOk p = q1
    generalize looseOk t = q2
    generalize nameB m = q3
    generalize tgt d = q4
    simp [e0, l0, l1]
  all_goals (try rw [Bool.eq_iff_iff])
  all_goals (try simp)
  all_goals (try omega)
  all_goals (intro _; simp only [and_comm, and_left_comm, and_assoc])
end Go.Proofs.YtofdpgcnconibaaGreatDoor.CmdP
/-! Commands: the program's records. -/
set_option linter.unusedVariables false
set_option linter.unusedSimpArgs false
namespace Go.Proofs.YtofdpgcnconibaaGreatDoor.CmdP
open Go.RowKit Go.Proofs.YtofdpgcnconibaaGreatDoor.PA Go.Proofs.YtofdpgcnconibaaGreatDoorW.PrintWords Go.Proofs.YtofdpgcnconibaaGreatDoorW.PrintLast Go.Proofs.YtofdpgcnconibaaGreatDoorW.PrintMore
open Go.Proofs.YtofdpgcnconibaaGreatDoor.Plain Go.Proofs.YtofdpgcnconibaaGreatDoor.PathP Go.Proofs.YtofdpgcnconibaaGreatDoor.TargetP
/-- A record's bytes behind their length. -/
def bodyR (c : Int) (p t m : ByteArray) (n : Int) (d : ByteArray) : ByteArray :=
  putB (putB (putB (putB (putB (putB (strOfNums [c % 256]) (c != 16) (textB p)) (formR c).1 (textB t)) (formR c).2.1 (textB m)) ((formR c).2.2.2.1 && (c == 15)) (strOfNums (fixedNums (n % 18446744073709551616)))) ((formR c).2.2.2.1 && (c != 15)) (strOfNums (shortNums 9 (n % 18446744073709551616)))) (formR c).2.2.1 (textB d)
/-- A record, or the error. -/
def encR (c : Int) (p t m : ByteArray) (n : Int) (d : ByteArray) : ByteArray × Int := if goodB c p t m n d = true then (textB (bodyR c p t m n d), 0) else (⟨#[]⟩, 190)
theorem enc_f (c : Int) (p t m : ByteArray) (n : Int) (d : ByteArray) (N : Nat) (hp : p.size ≤ N) (ht : t.size ≤ N) (hm : m.size ≤ N) (hd : d.size ≤ N) (hN : N ≤ 1000000) (k : Nat) (hk : N + 30 ≤ k) :
    cmd_encode.f k c p t m n d = some ((encR c p t m n d).1, if goodB c p t m n d = true then none else some 190) := by
  unfold cmd_encode.f encR
  rw [check_f c p t m n d N hp ht hN k hk, Option.bind_some]
  by_cases h : goodB c p t m n d = true
  · rw [if_pos h, if_pos h]
    show (cmd_of.f k c).bind _ = _
    rw [of_f c k (by omega), Option.bind_some, if_pos (by omega)]
    rfl
  · rw [if_neg h, if_neg h]
theorem tell_none : api_Tell.f none = some (0, 0, 0) := rfl
theorem tell_some (e : Int) : api_Tell.f (some e) = some (e, 0, -1) := rfl
/-- What is told of an error number of no record. -/
def toldR (e : Int) : Int × Int × Int := if e = 0 then (0, 0, 0) else (e, 0, -1)
theorem Enc_f (c : Int) (p t m : ByteArray) (n : Int) (d : ByteArray) (N : Nat) (hp : p.size ≤ N) (ht : t.size ≤ N) (hm : m.size ≤ N) (hd : d.size ≤ N) (hN : N ≤ 1000000) (k : Nat) (hk : N + 30 ≤ k) :
    cmd_Encode.f k c p t m n d = some ((encR c p t m n d).1, toldR (encR c p t m n d).2) := by
  unfold cmd_Encode.f
  rw [enc_f c p t m n d N hp ht hm hd hN k hk, Option.bind_some]
  unfold encR toldR
  by_cases h : goodB c p t m n d = true
  · rw [if_pos h, if_pos h, tell_none]; rfl
  · rw [if_neg h, if_neg h, tell_some]; rfl
theorem awake19 (k : Nat) (hk : 100 ≤ k) : coppicelaw19_awake.f k = some true := by
  unfold coppicelaw19_awake.f
  have z0 : (⟨#[]⟩ : ByteArray).size = 0 := rfl
  have z2 : (⟨#[47, 97]⟩ : ByteArray).size = 2 := rfl
  rw [Enc_f _ _ _ _ _ _ 2 (by omega) (by omega) (by omega) (by omega) (by omega) k (by omega), Option.bind_some, Enc_f _ _ _ _ _ _ 2 (by omega) (by omega) (by omega) (by omega) (by omega) k (by omega), Option.bind_some]
  have hl : looseOk (⟨#[47, 97]⟩ : ByteArray) = true := by
    have hn : nameB (⟨#[97]⟩ : ByteArray) = true := by
      unfold nameB nameOk
      rw [ByteArray.toList_eq]
      decide +kernel
    unfold looseOk looseR pathNames
    have hc : cutS (ofL (⟨#[47, 97]⟩ : ByteArray).data.toList.tail) = [⟨#[97]⟩] := by decide +kernel
    rw [if_neg (by decide), if_pos (by decide), hc, if_pos ⟨by decide, by
      simp only [List.head?_cons, Option.any_some]
      unfold looseB
      rw [hn, Bool.or_true], by rfl⟩]
    rfl
  have h1 : goodB 6 (⟨#[47, 97]⟩ : ByteArray) ⟨#[]⟩ ⟨#[]⟩ 0 ⟨#[]⟩ = true := by
    unfold goodB chkB
    rw [hl]
    decide +kernel
  have h2 : goodB 0 (⟨#[]⟩ : ByteArray) ⟨#[]⟩ ⟨#[]⟩ 0 ⟨#[]⟩ = false := by
    unfold goodB chkB formR
    simp
  unfold encR
  rw [if_pos h1, if_neg (Bool.eq_false_iff.1 h2)]
  have hb : (textB (bodyR 6 (⟨#[47, 97]⟩ : ByteArray) ⟨#[]⟩ ⟨#[]⟩ 0 ⟨#[]⟩)).toList = [4, 6, 2, 47, 97] := by
    rw [ByteArray.toList_eq]; decide +kernel
  rw [hb]
  decide +kernel
end Go.Proofs.YtofdpgcnconibaaGreatDoor.CmdP
/-! Commands: the document's records. -/
set_option linter.unusedVariables false
set_option linter.unusedSimpArgs false
namespace Go.Proofs.YtofdpgcnconibaaGreatDoor.CmdP
open Go.RowKit Go.Proofs.YtofdpgcnconibaaGreatDoor.PA Go.Proofs.YtofdpgcnconibaaGreatDoorW.PrintWords Go.Proofs.YtofdpgcnconibaaGreatDoorW.PrintLast Go.Proofs.YtofdpgcnconibaaGreatDoorW.PrintMore
open Go.Proofs.YtofdpgcnconibaaGreatDoor.Plain Go.Proofs.YtofdpgcnconibaaGreatDoor.PathP Go.Proofs.YtofdpgcnconibaaGreatDoor.TargetP Go.Proofs.YtofdpgcnconibaaGreatDoor.Ref02P
theorem rtext_f (x : ByteArray) (h : x.size ≤ 2000000000) : coppiceref02_Text.f x = some (textB x) := if_pos (by omega)
theorem renc_f (c : Int) (p t m : ByteArray) (n : Int) (d : ByteArray) (N : Nat) (hp : p.size ≤ N) (ht : t.size ≤ N) (hm : m.size ≤ N) (hd : d.size ≤ N) (hN : N ≤ 1000000) (hn : -9223372036854775808 ≤ n ∧ n ≤ 9223372036854775807) (k : Nat) (hk : 2 * N + 100 ≤ k) :
    coppiceref19_Encode.f k c p t m n d = some (encR c p t m n d) := by
  obtain ⟨k, rfl⟩ : ∃ q, k = q + 6 := ⟨k - 6, by omega⟩
  have zp := text_size p
  have zt := text_size t
  have zm := text_size m
  have zd := text_size d
  have hw : IntKind.u64.wrap n = n % 18446744073709551616 := wrap_u64 n
  have h0 : 0 ≤ n % 18446744073709551616 := Int.emod_nonneg _ (by decide)
  have h1 : n % 18446744073709551616 < 18446744073709551616 := Int.emod_lt_of_pos _ (by decide)
  have zF := fixed_size (n % 18446744073709551616)
  have zS := short_size (n % 18446744073709551616)
  have hF : ∀ k, 8 < k → coppiceref02_Fixed.f k (n % 18446744073709551616) = some (strOfNums (fixedNums (n % 18446744073709551616))) := fun k hk => refFixed k hk _ ⟨h0, h1⟩
  have hS : coppiceref02_Short.f (n % 18446744073709551616) = some (strOfNums (shortNums 9 (n % 18446744073709551616))) := if_pos ⟨h0, h1⟩
  unfold coppiceref19_Encode.f encR
  rw [right_f c p t m n d N hp ht hm hd hN _ (by omega), Option.bind_some, right_good c p t m n hn d]
  by_cases hg : goodB c p t m n d = true
  · have hc : 1 ≤ c ∧ c ≤ 16 := by
      have := right_good c p t m n hn d
      rw [hg, Bool.and_eq_true, decide_eq_true_eq] at this
      exact this.1
    rw [if_pos hg, if_pos hg, has_f c hc, Option.bind_some, Option.bind_some]
    unfold bodyR
    have z0 : (strOfNums [c % 256]).size = 1 := rfl
    generalize strOfNums [c % 256] = s0 at *
    generalize (formR c).1 = o1
    generalize (formR c).2.1 = o2
    generalize (formR c).2.2.1 = o3
    generalize (formR c).2.2.2.1 = o4
    generalize hFb : strOfNums (fixedNums (n % 18446744073709551616)) = sF at *
    generalize hSb : strOfNums (shortNums 9 (n % 18446744073709551616)) = sS at *
    have j4 : ∀ (k : Nat) (x : ByteArray), x.size ≤ 10000000 → coppiceref19_Encode.j4 (k + 1) o3 x c p t m n d = some (textB (putB x o3 (textB d)), 0) := by
      intro k x hx
      simp only [coppiceref19_Encode.j4]
      cases o3 with
      | true => rw [if_pos rfl, rtext_f d (by omega), Option.bind_some, if_pos (by omega), rtext_f _ (by rw [ByteArray.size_append]; omega), Option.bind_some]; rfl
      | false => rw [if_neg (by decide), rtext_f _ (by omega), Option.bind_some]; rfl
    have j2 : ∀ (k : Nat) (x : ByteArray), 10 ≤ k → x.size ≤ 9000000 → coppiceref19_Encode.j2 (k + 3) o4 o3 x c p t m n d = some (textB (putB (putB (putB x (o4 && (c == 15)) sF) (o4 && (c != 15)) sS) o3 (textB d)), 0) := by
      intro k x hk hx
      simp only [coppiceref19_Encode.j2, coppiceref19_Encode.j3, hw, hF (k + 1) (by omega), hS, Option.bind_some]
      cases o4 with
      | false => rw [if_neg (by decide), if_neg (by decide), if_neg (by decide), j4 k x (by omega)]; rfl
      | true =>
        rw [if_pos rfl]
        by_cases h15 : c = 15
        · have e1 : (c == 15) = true := beq_iff_eq.2 h15
          have e2 : (c != 15) = false := bne_eq_false_iff_eq.2 h15
          rw [e1, e2, if_pos rfl, if_pos (by omega), j4 k _ (by rw [ByteArray.size_append]; omega)]; rfl
        · have e1 : (c == 15) = false := beq_eq_false_iff_ne.2 h15
          have e2 : (c != 15) = true := bne_iff_ne.2 h15
          rw [e1, e2, if_neg (by decide), if_pos rfl, if_pos (by omega), j4 k _ (by rw [ByteArray.size_append]; omega)]; rfl
    have j0 : ∀ (x : ByteArray), x.size ≤ 1100000 → coppiceref19_Encode.j0 (k + 6) o1 o2 o4 o3 x c p t m n d = some (textB (putB (putB (putB (putB (putB x o1 (textB t)) o2 (textB m)) (o4 && (c == 15)) sF) (o4 && (c != 15)) sS) o3 (textB d)), 0) := by
      intro x hx
      simp only [coppiceref19_Encode.j0, coppiceref19_Encode.j1, rtext_f t (by omega), rtext_f m (by omega), Option.bind_some]
      cases o1 with
      | true =>
        rw [if_pos rfl, if_pos (by omega)]
        cases o2 with
        | true => rw [if_pos rfl, if_pos (by rw [ByteArray.size_append]; omega), j2 (k + 1) _ (by omega) (by rw [ByteArray.size_append, ByteArray.size_append]; omega)]; rfl
        | false => rw [if_neg (by decide), j2 (k + 1) _ (by omega) (by rw [ByteArray.size_append]; omega)]; rfl
      | false =>
        rw [if_neg (by decide)]
        cases o2 with
        | true => rw [if_pos rfl, if_pos (by omega), j2 (k + 1) _ (by omega) (by rw [ByteArray.size_append]; omega)]; rfl
        | false => rw [if_neg (by decide), j2 (k + 1) _ (by omega) (by omega)]; rfl
    by_cases h16 : c = 16
    · have e1 : (c != 16) = false := bne_eq_false_iff_eq.2 h16
      rw [if_pos h16, e1, j0 s0 (by omega)]; rfl
    · have e1 : (c != 16) = true := bne_iff_ne.2 h16
      rw [if_neg h16, e1, rtext_f p (by omega), Option.bind_some, if_pos (by omega), j0 _ (by rw [ByteArray.size_append]; omega)]; rfl
  · rw [if_neg hg, if_neg hg]
end Go.Proofs.YtofdpgcnconibaaGreatDoor.CmdP
/-! Commands: what is told behind a decode. -/
set_option linter.unusedVariables false
namespace Go.Proofs.YtofdpgcnconibaaGreatDoor.CmdP
open Go.RowKit Go.Proofs.YtofdpgcnconibaaGreatDoor.PA Go.Proofs.YtofdpgcnconibaaGreatDoorW.PrintWords Go.Proofs.YtofdpgcnconibaaGreatDoorW.PrintLast Go.Proofs.YtofdpgcnconibaaGreatDoorW.PrintMore
open Go.Proofs.YtofdpgcnconibaaGreatDoor.Plain
theorem wrap_range (x : Int) : -9223372036854775808 ≤ wrap64 x ∧ wrap64 x ≤ 9223372036854775807 := by unfold wrap64; omega
/-- What is told of an error's number. -/
def errO (code : Int) : Option Int := if code = 0 then none else some code
end Go.Proofs.YtofdpgcnconibaaGreatDoor.CmdP
/-! Commands: what the program decodes. -/
set_option linter.unusedVariables false
set_option linter.unusedSimpArgs false
namespace Go.Proofs.YtofdpgcnconibaaGreatDoor.CmdP
open Go.RowKit Go.Proofs.YtofdpgcnconibaaGreatDoor.PA Go.Proofs.YtofdpgcnconibaaGreatDoorW.PrintWords Go.Proofs.YtofdpgcnconibaaGreatDoorW.PrintLast Go.Proofs.YtofdpgcnconibaaGreatDoorW.PrintMore
open Go.Proofs.YtofdpgcnconibaaGreatDoor.Plain Go.Proofs.YtofdpgcnconibaaGreatDoor.PathP Go.Proofs.YtofdpgcnconibaaGreatDoor.TargetP Go.Proofs.YtofdpgcnconibaaGreatDoor.OwnP
def piece (has : Bool) (x : ByteArray) : ByteArray := if has = true then x else ⟨#[]⟩
theorem putB_piece (s : ByteArray) (has : Bool) (x : ByteArray) : putB s has x = s ++ piece has x := by
  unfold putB piece
  cases has
  · exact (append_empty s).symm
  · rfl
theorem extract_more (s : ByteArray) (a b : Nat) (h : a ≤ b) (hb : b ≤ s.size) : s.extract 0 b = s.extract 0 a ++ s.extract a b := by
  apply ext_list
  rw [append_list, extract_list, extract_list, extract_list, List.drop_zero, Nat.sub_zero, Nat.sub_zero]
  rw [show b = a + (b - a) by omega, List.take_add, show a + (b - a) - a = b - a by omega]
theorem extract_nil (s : ByteArray) (a : Nat) : s.extract a a = ⟨#[]⟩ := by
  apply ext_list
  rw [extract_list]; simp
/-- What was read so far, and what comes now. -/
theorem read_more {s acc x : ByteArray} {a a' : Int} (h : s.extract 0 a.toNat = acc) (h0 : 0 ≤ a) (h1 : a ≤ a') (h2 : a' ≤ s.size) (hx : s.extract a.toNat a'.toNat = x) : s.extract 0 a'.toNat = acc ++ x := by
  rw [extract_more s a.toNat a'.toNat (by omega) (by omega), h, hx]
theorem rdT_own (has : Bool) (s : ByteArray) (a e : Int) (h : In s a) (h2 : s.size ≤ 4611686018427387904) (k : Nat) (hk : 20 ≤ k) :
    ∃ v a' e', rdT k has s a e = some (v, s, a', e') ∧ In s a' ∧ v.size ≤ 2000 ∧ (has = false → v = ⟨#[]⟩) ∧ (e' = 0 → e = 0 ∧ a ≤ a' ∧ s.extract a.toNat a'.toNat = piece has (textB v)) := by
  cases has with
  | true =>
    obtain ⟨v, a', e', h3, h4, h5, h6⟩ := text_own s a e h h2 k hk 2000 ⟨by omega, by omega⟩
    exact ⟨v, a', e', h3, h4, by omega, (fun h => by cases h), h6⟩
  | false => exact ⟨⟨#[]⟩, a, e, rfl, h, Nat.zero_le _, fun _ => rfl, fun he => ⟨he, Int.le_refl _, extract_nil s _⟩⟩
theorem wrap_mod (x : Int) (h : 0 ≤ x ∧ x < 18446744073709551616) : wrap64 x % 18446744073709551616 = x := by unfold wrap64; omega
theorem rdN_own (fx sh : Bool) (s : ByteArray) (a e : Int) (h : In s a) (h2 : s.size ≤ 4611686018427387904) (k : Nat) (hk : 20 ≤ k) :
    ∃ v a' e', rdN k fx sh s a e = some (v, s, a', e') ∧ In s a' ∧ (-9223372036854775808 ≤ v ∧ v ≤ 9223372036854775807) ∧ (fx = false → sh = false → v = 0) ∧
      (e' = 0 → e = 0 ∧ a ≤ a' ∧ s.extract a.toNat a'.toNat = piece fx (strOfNums (fixedNums (v % 18446744073709551616))) ++ piece (!fx && sh) (strOfNums (shortNums 9 (v % 18446744073709551616)))) := by
  cases fx with
  | true =>
    obtain ⟨x, a', e', h3, h4, h5, h6⟩ := fixed_own s a e h h2 k (by omega)
    refine ⟨wrap64 x, a', e', ?_, h4, wrap_range x, (fun h => by cases h), fun he => ?_⟩
    · unfold rdN; rw [if_pos rfl, h3]; rfl
    · obtain ⟨q1, q2, q3⟩ := h6 he
      refine ⟨q1, q2, ?_⟩
      rw [q3, wrap_mod x h5]
      exact (append_empty _).symm
  | false =>
    cases sh with
    | true =>
      obtain ⟨x, a', e', h3, h4, h5, h6⟩ := short_own s a e h h2
      refine ⟨wrap64 x, a', e', ?_, h4, wrap_range x, (fun _ h => by cases h), fun he => ?_⟩
      · unfold rdN; rw [if_neg (by decide), if_pos rfl, h3]; rfl
      · obtain ⟨q1, q2, q3⟩ := h6 he
        refine ⟨q1, q2, ?_⟩
        rw [q3, wrap_mod x h5]
        exact (empty_append _).symm
    | false =>
      exact ⟨0, a, e, rfl, h, by omega, fun _ _ => rfl, fun he => ⟨he, Int.le_refl _, by rw [extract_nil]; exact (append_empty _).symm⟩⟩
theorem decode_own (s : ByteArray) (hs : s.size ≤ 1000000) (k : Nat) (hk : 1000100 ≤ k) :
    ∃ c p t m n d len code, cmd_decode.f k s = some (c, p, t, m, n, d, len, errO code) ∧
      ((code = 0 ∧ goodB c p t m n d = true ∧ 0 ≤ len ∧ len ≤ s.size ∧ s.extract 0 len.toNat = textB (bodyR c p t m n d) ∧ (0 ≤ c ∧ c < 256) ∧ (p.size ≤ 2000 ∧ t.size ≤ 2000 ∧ m.size ≤ 2000 ∧ d.size ≤ 2000) ∧ (-9223372036854775808 ≤ n ∧ n ≤ 9223372036854775807)) ∨
       ((code = 20 ∨ code = 190) ∧ c = 0 ∧ p = ⟨#[]⟩ ∧ t = ⟨#[]⟩ ∧ m = ⟨#[]⟩ ∧ n = 0 ∧ d = ⟨#[]⟩ ∧ len = 0)) := by
  have bad : ∀ x : Int, (x = 20 ∨ x = 190) → ∃ c p t m n d len code, some (noCmd x) = some (c, p, t, m, n, d, len, errO code) ∧
      ((code = 0 ∧ goodB c p t m n d = true ∧ 0 ≤ len ∧ len ≤ s.size ∧ s.extract 0 len.toNat = textB (bodyR c p t m n d) ∧ (0 ≤ c ∧ c < 256) ∧ (p.size ≤ 2000 ∧ t.size ≤ 2000 ∧ m.size ≤ 2000 ∧ d.size ≤ 2000) ∧ (-9223372036854775808 ≤ n ∧ n ≤ 9223372036854775807)) ∨
       ((code = 20 ∨ code = 190) ∧ c = 0 ∧ p = ⟨#[]⟩ ∧ t = ⟨#[]⟩ ∧ m = ⟨#[]⟩ ∧ n = 0 ∧ d = ⟨#[]⟩ ∧ len = 0)) := by
    intro x hx
    refine ⟨0, ⟨#[]⟩, ⟨#[]⟩, ⟨#[]⟩, 0, ⟨#[]⟩, 0, x, ?_, .inr ⟨hx, rfl, rfl, rfl, rfl, rfl, rfl, rfl⟩⟩
    unfold noCmd errO
    rw [if_neg (by omega)]
  obtain ⟨T, a1, e1, hT, i1, P1, g1⟩ := text_own s 0 0 ⟨by omega, by omega⟩ (by omega) k (by omega) (s.size : Int) ⟨by omega, by omega⟩
  unfold cmd_decode.f
  rw [hT, Option.bind_some]
  by_cases h1 : e1 = 0
  · subst h1
    obtain ⟨-, -, hx⟩ := g1 rfl
    have hTz : T.size ≤ s.size := by omega
    rw [if_pos rfl]
    obtain ⟨b, a2, e2, hb, i2, hb01, g2⟩ := byte_own T 0 0 ⟨by omega, by omega⟩ (by omega)
    show ∃ c p t m n d len code, ((pack_Reader_Byte.f T 0 0).bind _) = _ ∧ _
    rw [hb, Option.bind_some]
    dsimp only
    rw [if_pos hb01, of_f b k (by omega), Option.bind_some]
    by_cases his : (formR b).2.2.2.2.2.2 = true
    · rw [if_pos his]
      obtain ⟨p, a3, e3, hp, i3, zp, np, g3⟩ := rdT_own (b != 16) T a2 e2 i2 (by omega) k (by omega)
      rw [hp, Option.bind_some]
      dsimp only
      obtain ⟨t, a4, e4, ht, i4, zt, nt, g4⟩ := rdT_own (formR b).1 T a3 e3 i3 (by omega) k (by omega)
      rw [ht, Option.bind_some]
      dsimp only
      obtain ⟨m, a5, e5, hm, i5, zm, nm, g5⟩ := rdT_own (formR b).2.1 T a4 e4 i4 (by omega) k (by omega)
      rw [hm, Option.bind_some]
      dsimp only
      obtain ⟨n, a6, e6, hn, i6, hnr, hn0, g6⟩ := rdN_own ((formR b).2.2.2.1 && (b == 15)) (formR b).2.2.2.1 T a5 e5 i5 (by omega) k (by omega)
      rw [hn, Option.bind_some]
      dsimp only
      obtain ⟨d, a7, e7, hd, i7, zd, nd, g7⟩ := rdT_own (formR b).2.2.1 T a6 e6 i6 (by omega) k (by omega)
      rw [hd, Option.bind_some]
      dsimp only
      obtain ⟨v, hv, hv0⟩ := end_own T a7 e7 i7 (by omega)
      rw [hv, Option.bind_some]
      dsimp only
      by_cases h8 : v = 0
      · obtain ⟨he7, ha7⟩ := hv0.1 h8
        rw [if_pos h8, check_f b p t m n d 2000 zp zt (by omega) k (by omega), Option.bind_some]
        by_cases hg : goodB b p t m n d = true
        · rw [if_pos hg]
          obtain ⟨q6, l7, x7⟩ := g7 he7
          obtain ⟨q5, l6, x6⟩ := g6 q6
          obtain ⟨q4, l5, x5⟩ := g5 q5
          obtain ⟨q3, l4, x4⟩ := g4 q4
          obtain ⟨q2, l3, x3⟩ := g3 q3
          obtain ⟨-, l2, x2⟩ := g2 q2
          have r2 : T.extract 0 a2.toNat = strOfNums [b] := x2
          have r3 := read_more r2 i2.h0 l3 i3.h1 x3
          have r4 := read_more r3 i3.h0 l4 i4.h1 x4
          have r5 := read_more r4 i4.h0 l5 i5.h1 x5
          have r6 := read_more r5 i5.h0 l6 i6.h1 x6
          have r7 := read_more r6 i6.h0 l7 i7.h1 x7
          have hall : T = bodyR b p t m n d := by
            have : T.extract 0 a7.toNat = T := by
              rw [ha7, Int.toNat_natCast]; exact ByteArray.extract_zero_size
            rw [this] at r7
            rw [r7]
            unfold bodyR
            simp only [putB_piece]
            have hb256 : b % 256 = b := by omega
            have hx : (!((formR b).2.2.2.1 && (b == 15)) && (formR b).2.2.2.1) = ((formR b).2.2.2.1 && (b != 15)) := by
              show _ = ((formR b).2.2.2.1 && !(b == 15))
              cases (formR b).2.2.2.1 <;> cases (b == 15) <;> rfl
            rw [hb256, hx]
            simp only [ByteArray.append_assoc]
          refine ⟨b, p, t, m, n, d, a1, 0, ?_, .inl ⟨rfl, hg, i1.h0, i1.h1, ?_, hb01, ⟨zp, zt, zm, zd⟩, hnr⟩⟩
          · have e1 : wrap64 ((s.size : Int) - a1) = (s.size : Int) - a1 := by have := i1.h0; have := i1.h1; unfold wrap64; omega
            have e2 : wrap64 ((s.size : Int) - ((s.size : Int) - a1)) = a1 := by have := i1.h0; have := i1.h1; unfold wrap64; omega
            show some (b, p, t, m, n, d, wrap64 ((s.size : Int) - wrap64 ((s.size : Int) - a1)), (none : Option Int)) = _
            rw [e1, e2]; rfl
          · rw [← hall]; exact hx
        · rw [if_neg hg]; exact bad 190 (.inr rfl)
      · rw [if_neg h8]; exact bad 190 (.inr rfl)
    · rw [if_neg his]; exact bad 190 (.inr rfl)
  · rw [if_neg h1]
    refine bad _ ?_
    dsimp only
    split
    · exact .inr rfl
    · exact .inl rfl
end Go.Proofs.YtofdpgcnconibaaGreatDoor.CmdP
/-! Commands: a record is read as its command. -/
set_option linter.unusedVariables false
set_option linter.unusedSimpArgs false
namespace Go.Proofs.YtofdpgcnconibaaGreatDoor.CmdP
open Go.RowKit Go.Proofs.YtofdpgcnconibaaGreatDoor.PA Go.Proofs.YtofdpgcnconibaaGreatDoorW.PrintWords Go.Proofs.YtofdpgcnconibaaGreatDoorW.PrintLast Go.Proofs.YtofdpgcnconibaaGreatDoorW.PrintMore
open Go.Proofs.YtofdpgcnconibaaGreatDoor.Plain Go.Proofs.YtofdpgcnconibaaGreatDoor.PathP Go.Proofs.YtofdpgcnconibaaGreatDoor.TargetP Go.Proofs.YtofdpgcnconibaaGreatDoor.OwnP Go.Proofs.YtofdpgcnconibaaGreatDoor.PackP
theorem textB_size (x : ByteArray) : (textB x).size = (shortNums 9 x.size).length + x.size := by unfold textB; rw [ByteArray.size_append, strOfNums_size]
theorem piece_le (b : Bool) (x : ByteArray) : (piece b x).size ≤ x.size := by
  cases b
  · exact Nat.zero_le _
  · exact Nat.le_refl _
theorem rdT_at (has : Bool) (x : ByteArray) (hx : has = false → x = ⟨#[]⟩) (hz : x.size ≤ 2000) (s u w : ByteArray) (a : Int) (hs : s = u ++ piece has (textB x) ++ w) (ha : a = (u.size : Int)) (h2 : s.size ≤ 4611686018427387904) (k : Nat) (hk : 0 < k) :
    rdT k has s a 0 = some (x, s, a + ((piece has (textB x)).size : Int), 0) := by
  cases has with
  | true =>
    have := at_text u w x k hk s a hs ha h2 2000 ⟨by omega, by omega⟩
    have e : (piece true (textB x)).size = (shortNums 9 x.size).length + x.size := textB_size x
    show pack_Reader_Text.f k s a 0 2000 = _
    rw [this, e]
    congr 4
    omega
  | false =>
    rw [hx rfl]
    show some ((⟨#[]⟩ : ByteArray), s, a, (0 : Int)) = some (_, _, a + ((0 : Nat) : Int), _)
    rw [show a + ((0 : Nat) : Int) = a by omega]
theorem wrap_back (n : Int) (h : -9223372036854775808 ≤ n ∧ n ≤ 9223372036854775807) : wrap64 (n % 18446744073709551616) = n := by unfold wrap64; omega
theorem rdN_at (fx sh : Bool) (n : Int) (hn : -9223372036854775808 ≤ n ∧ n ≤ 9223372036854775807) (h0 : fx = false → sh = false → n = 0) (s u w : ByteArray) (a : Int)
    (hs : s = u ++ (piece fx (strOfNums (fixedNums (n % 18446744073709551616))) ++ piece (!fx && sh) (strOfNums (shortNums 9 (n % 18446744073709551616)))) ++ w) (ha : a = (u.size : Int)) (h2 : s.size ≤ 4611686018427387904) (k : Nat) (hk : 8 < k) :
    rdN k fx sh s a 0 = some (n, s, a + ((piece fx (strOfNums (fixedNums (n % 18446744073709551616))) ++ piece (!fx && sh) (strOfNums (shortNums 9 (n % 18446744073709551616)))).size : Int), 0) := by
  have m0 : 0 ≤ n % 18446744073709551616 := Int.emod_nonneg _ (by decide)
  have m1 : n % 18446744073709551616 < 18446744073709551616 := Int.emod_lt_of_pos _ (by decide)
  cases fx with
  | true =>
    have e : (piece true (strOfNums (fixedNums (n % 18446744073709551616))) ++ piece (!true && sh) (strOfNums (shortNums 9 (n % 18446744073709551616)))) = strOfNums (fixedNums (n % 18446744073709551616)) := append_empty _
    rw [e] at hs ⊢
    have z : (strOfNums (fixedNums (n % 18446744073709551616))).size = 8 := by rw [strOfNums_size]; rfl
    unfold rdN
    rw [if_pos rfl, at_fixed u w _ m0 m1 k hk s a hs ha h2, Option.bind_some, z]
    show some (wrap64 (n % 18446744073709551616), _) = _
    rw [wrap_back n hn]; rfl
  | false =>
    cases sh with
    | true =>
      have e : (piece false (strOfNums (fixedNums (n % 18446744073709551616))) ++ piece (!false && true) (strOfNums (shortNums 9 (n % 18446744073709551616)))) = strOfNums (shortNums 9 (n % 18446744073709551616)) := empty_append _
      rw [e] at hs ⊢
      have z : (strOfNums (shortNums 9 (n % 18446744073709551616))).size = (shortNums 9 (n % 18446744073709551616)).length := strOfNums_size _
      unfold rdN
      rw [if_neg (by decide), if_pos rfl, at_short u w _ m0 m1 s a hs ha h2, Option.bind_some, z]
      show some (wrap64 (n % 18446744073709551616), _) = _
      rw [wrap_back n hn]
    | false =>
      rw [h0 rfl rfl]
      show some ((0 : Int), s, a, (0 : Int)) = some (_, _, a + ((0 : Nat) : Int), _)
      rw [show a + ((0 : Nat) : Int) = a by omega]
/-- What a kind hasn't is empty. -/
theorem good_tells (c : Int) (p t m : ByteArray) (n : Int) (d : ByteArray) (hg : goodB c p t m n d = true) : (1 ≤ c ∧ c ≤ 16) ∧ (formR c).2.2.2.2.2.2 = true ∧ (c = 16 → p = ⟨#[]⟩) ∧ ((formR c).1 = false → t = ⟨#[]⟩) ∧ ((formR c).2.1 = false → m = ⟨#[]⟩) ∧
    ((formR c).2.2.2.1 = false → n = 0) ∧ ((formR c).2.2.1 = false → d = ⟨#[]⟩) := by
  have nil : ∀ x : ByteArray, x.size = 0 → x = ⟨#[]⟩ := fun x hx => ext_list (List.eq_nil_of_length_eq_zero (by rw [lenL]; exact hx))
  unfold goodB chkB at hg
  simp only [Bool.and_eq_true] at hg
  obtain ⟨h1, h2, h3, h4, h5, h6, h7⟩ := hg
  have hc : 1 ≤ c ∧ c ≤ 16 := by
    rcases kinds c with rfl | rfl | rfl | rfl | rfl | rfl | rfl | rfl | rfl | rfl | rfl | rfl | rfl | rfl | rfl | rfl | h
    case inr.inr.inr.inr.inr.inr.inr.inr.inr.inr.inr.inr.inr.inr.inr.inr =>
      exfalso
      unfold formR at h1
      repeat rw [if_neg (by omega)] at h1
      cases h1
    all_goals omega
  refine ⟨hc, h1, fun h => ?_, fun h => ?_, fun h => ?_, fun h => ?_, fun h => ?_⟩
  · rw [if_pos h, decide_eq_true_eq] at h2; exact nil p h2
  · rw [if_neg (by rw [h]; decide), decide_eq_true_eq] at h4; exact nil t h4
  · rw [if_neg (by rw [h]; decide), decide_eq_true_eq] at h5; exact nil m h5
  · rw [decide_eq_true_eq] at h6 h7
    revert h h6 h7
    rcases kinds c with rfl | rfl | rfl | rfl | rfl | rfl | rfl | rfl | rfl | rfl | rfl | rfl | rfl | rfl | rfl | rfl | h
    case inr.inr.inr.inr.inr.inr.inr.inr.inr.inr.inr.inr.inr.inr.inr.inr => omega
    all_goals (simp only [formR]; simp; try omega)
  · revert h h3
    unfold fitsB
    rcases kinds c with rfl | rfl | rfl | rfl | rfl | rfl | rfl | rfl | rfl | rfl | rfl | rfl | rfl | rfl | rfl | rfl | h
    case inr.inr.inr.inr.inr.inr.inr.inr.inr.inr.inr.inr.inr.inr.inr.inr => omega
    all_goals (simp [formR]; try (intro h; exact nil d (by first | exact h | (rw [h]; rfl))))
theorem decode_at (c : Int) (p t m : ByteArray) (n : Int) (d : ByteArray) (hg : goodB c p t m n d = true) (zp : p.size ≤ 2000) (zt : t.size ≤ 2000) (zm : m.size ≤ 2000) (zd : d.size ≤ 2000)
    (hn : -9223372036854775808 ≤ n ∧ n ≤ 9223372036854775807) (w : ByteArray) (hw : w.size ≤ 100000000) (k : Nat) (hk : 1000100 ≤ k) :
    cmd_decode.f k (textB (bodyR c p t m n d) ++ w) = some (c, p, t, m, n, d, ((textB (bodyR c p t m n d)).size : Int), none) := by
  obtain ⟨hc, his, g1, g2, g3, g4, g5⟩ := good_tells c p t m n d hg
  have hall : bodyR c p t m n d = strOfNums [c] ++ piece (c != 16) (textB p) ++ piece (formR c).1 (textB t) ++ piece (formR c).2.1 (textB m) ++
      (piece ((formR c).2.2.2.1 && (c == 15)) (strOfNums (fixedNums (n % 18446744073709551616))) ++ piece (!((formR c).2.2.2.1 && (c == 15)) && (formR c).2.2.2.1) (strOfNums (shortNums 9 (n % 18446744073709551616)))) ++ piece (formR c).2.2.1 (textB d) := by
    unfold bodyR
    simp only [putB_piece]
    have hc256 : c % 256 = c := by omega
    have hx : (!((formR c).2.2.2.1 && (c == 15)) && (formR c).2.2.2.1) = ((formR c).2.2.2.1 && (c != 15)) := by
      show _ = ((formR c).2.2.2.1 && !(c == 15))
      cases (formR c).2.2.2.1 <;> cases (c == 15) <;> rfl
    rw [hc256, hx]
    simp only [ByteArray.append_assoc]
  have zpiece : ∀ (b : Bool) (x : ByteArray), (piece b x).size ≤ x.size := fun b x => piece_le b x
  have z1 := zpiece (c != 16) (textB p)
  have z2 := zpiece (formR c).1 (textB t)
  have z3 := zpiece (formR c).2.1 (textB m)
  have z4 := zpiece ((formR c).2.2.2.1 && (c == 15)) (strOfNums (fixedNums (n % 18446744073709551616)))
  have z5 := zpiece (!((formR c).2.2.2.1 && (c == 15)) && (formR c).2.2.2.1) (strOfNums (shortNums 9 (n % 18446744073709551616)))
  have z6 := zpiece (formR c).2.2.1 (textB d)
  have y1 := text_size p
  have y2 := text_size t
  have y3 := text_size m
  have y4 := fixed_size (n % 18446744073709551616)
  have y5 := short_size (n % 18446744073709551616)
  have y6 := text_size d
  have y0 : (strOfNums [c]).size = 1 := rfl
  have hgk := check_f c p t m n d 2000 zp zt (by omega) k (by omega)
  rw [hg, if_pos rfl] at hgk
  generalize hT : bodyR c p t m n d = T at *
  generalize hP1 : piece (c != 16) (textB p) = P1 at *
  generalize hP2 : piece (formR c).1 (textB t) = P2 at *
  generalize hP3 : piece (formR c).2.1 (textB m) = P3 at *
  generalize hP4 : piece ((formR c).2.2.2.1 && (c == 15)) (strOfNums (fixedNums (n % 18446744073709551616))) ++ piece (!((formR c).2.2.2.1 && (c == 15)) && (formR c).2.2.2.1) (strOfNums (shortNums 9 (n % 18446744073709551616))) = P4 at *
  generalize hP5 : piece (formR c).2.2.1 (textB d) = P5 at *
  have z45 : P4.size ≤ 32 := by rw [← hP4, ByteArray.size_append]; omega
  have hTz : T.size = 1 + P1.size + P2.size + P3.size + P4.size + P5.size := by rw [hall]; simp only [ByteArray.size_append]; omega
  have hsz : (textB T ++ w).size = (textB T).size + w.size := ByteArray.size_append
  have hts := textB_size T
  have hlt := shortNums_len 9 T.size
  generalize hS : textB T ++ w = S at *
  have hr1 : pack_Reader_Text.f k S 0 0 (S.size : Int) = some (T, S, ((textB T).size : Int), 0) := by
    have := at_text (⟨#[]⟩ : ByteArray) w T k (by omega) S 0 (by rw [empty_append]; exact hS.symm) rfl (by omega) (S.size : Int) ⟨by omega, by omega⟩
    rw [this, hts]
    congr 4
    omega
  have hb : bt T 0 = c := by
    have := mid_nums (⟨#[]⟩ : ByteArray) (P1 ++ (P2 ++ (P3 ++ (P4 ++ P5)))) [c] (by intro x hx; rw [List.mem_singleton] at hx; omega) 0 (by simp)
    rw [empty_append] at this
    have e : T = strOfNums [c] ++ (P1 ++ (P2 ++ (P3 ++ (P4 ++ P5)))) := by rw [hall]; simp only [ByteArray.append_assoc]
    rw [e]
    exact this
  have hr2 : pack_Reader_Byte.f T 0 0 = some (c, T, 1, 0) := by
    rw [byte_ok T 0 (by omega) (by omega) (by omega) (by omega), hb]; rfl
  have h3 := rdT_at (c != 16) p (fun h => g1 (by simpa using h)) zp T (strOfNums [c]) (P2 ++ (P3 ++ (P4 ++ P5))) 1 (by rw [hall, hP1]; simp only [ByteArray.append_assoc]) rfl (by omega) k (by omega)
  rw [hP1] at h3
  have h4 := rdT_at (formR c).1 t g2 zt T (strOfNums [c] ++ P1) (P3 ++ (P4 ++ P5)) (1 + (P1.size : Int)) (by rw [hall, hP2]; simp only [ByteArray.append_assoc]) (by rw [ByteArray.size_append]; omega) (by omega) k (by omega)
  rw [hP2] at h4
  have h5 := rdT_at (formR c).2.1 m g3 zm T (strOfNums [c] ++ P1 ++ P2) (P4 ++ P5) (1 + (P1.size : Int) + (P2.size : Int)) (by rw [hall, hP3]; simp only [ByteArray.append_assoc]) (by rw [ByteArray.size_append, ByteArray.size_append]; omega) (by omega) k (by omega)
  rw [hP3] at h5
  have h6 := rdN_at ((formR c).2.2.2.1 && (c == 15)) (formR c).2.2.2.1 n hn (fun _ h => g4 h) T (strOfNums [c] ++ P1 ++ P2 ++ P3) P5 (1 + (P1.size : Int) + (P2.size : Int) + (P3.size : Int)) (by rw [hP4]; exact hall) (by simp only [ByteArray.size_append]; omega) (by omega) k (by omega)
  rw [hP4] at h6
  have h7 := rdT_at (formR c).2.2.1 d g5 zd T (strOfNums [c] ++ P1 ++ P2 ++ P3 ++ P4) ⟨#[]⟩ (1 + (P1.size : Int) + (P2.size : Int) + (P3.size : Int) + (P4.size : Int)) (by rw [hP5, append_empty]; exact hall) (by simp only [ByteArray.size_append]; omega) (by omega) k (by omega)
  rw [hP5] at h7
  unfold cmd_decode.f
  rw [hr1, Option.bind_some]
  dsimp only
  rw [if_pos rfl, hr2, Option.bind_some]
  dsimp only
  rw [if_pos (by omega), of_f c k (by omega), Option.bind_some, if_pos his, h3, Option.bind_some]
  dsimp only
  rw [h4, Option.bind_some]
  dsimp only
  rw [h5, Option.bind_some]
  dsimp only
  rw [h6, Option.bind_some]
  dsimp only
  rw [h7, Option.bind_some]
  dsimp only
  have h8 : ∀ a : Int, a = (T.size : Int) → pack_Reader_End.f T a 0 = some (0, T, a, 0) := fun a ha => by unfold pack_Reader_End.f; rw [if_neg (by omega)]
  rw [h8 _ (by omega), Option.bind_some]
  dsimp only
  rw [if_pos rfl, hgk, Option.bind_some]
  have e1 : wrap64 ((S.size : Int) - ((textB T).size : Int)) = (S.size : Int) - ((textB T).size : Int) := by unfold wrap64; omega
  have e2 : wrap64 ((S.size : Int) - ((S.size : Int) - ((textB T).size : Int))) = ((textB T).size : Int) := by unfold wrap64; omega
  show some (c, p, t, m, n, d, wrap64 ((S.size : Int) - wrap64 ((S.size : Int) - ((textB T).size : Int))), (none : Option Int)) = _
  rw [e1, e2]
end Go.Proofs.YtofdpgcnconibaaGreatDoor.CmdP
/-! Commands: the records of many; what is great; which are the same. -/
set_option linter.unusedVariables false
set_option linter.unusedSimpArgs false
namespace Go.Proofs.YtofdpgcnconibaaGreatDoor.CmdP
open Go.RowKit Go.Proofs.YtofdpgcnconibaaGreatDoor.PA Go.Proofs.YtofdpgcnconibaaGreatDoorW.PrintWords Go.Proofs.YtofdpgcnconibaaGreatDoorW.PrintLast Go.Proofs.YtofdpgcnconibaaGreatDoorW.PrintMore
open Go.Proofs.YtofdpgcnconibaaGreatDoor.Plain Go.Proofs.YtofdpgcnconibaaGreatDoor.PathP Go.Proofs.YtofdpgcnconibaaGreatDoor.TargetP Go.Proofs.YtofdpgcnconibaaGreatDoor.Ref02P
abbrev Cm := S23
def goodC (x : Cm) : Bool := goodB x.f0 x.f1 x.f2 x.f3 x.f4 x.f5
def recC (x : Cm) : ByteArray := textB (bodyR x.f0 x.f1 x.f2 x.f3 x.f4 x.f5)
/-- Texts of a decoder's reach, a number of 64 bits. -/
def Small (x : Cm) : Prop := (x.f1.size ≤ 2000 ∧ x.f2.size ≤ 2000 ∧ x.f3.size ≤ 2000 ∧ x.f5.size ≤ 2000) ∧ (-9223372036854775808 ≤ x.f4 ∧ x.f4 ≤ 9223372036854775807)
theorem recC_pos (x : Cm) : 1 ≤ (recC x).size := by
  unfold recC
  rw [textB_size]
  have := shortNums_pos 9 ((bodyR x.f0 x.f1 x.f2 x.f3 x.f4 x.f5).size : Int)
  omega
theorem recC_size (x : Cm) (h : Small x) : (recC x).size ≤ 10000 := by
  obtain ⟨c, p, t, m, n, d⟩ := x
  obtain ⟨⟨zp, zt, zm, zd⟩, -⟩ := h
  dsimp only at zp zt zm zd
  show (textB (bodyR c p t m n d)).size ≤ 10000
  have y0 : (strOfNums [c % 256]).size = 1 := rfl
  have y1 := text_size p
  have y2 := text_size t
  have y3 := text_size m
  have y4 := fixed_size (n % 18446744073709551616)
  have y5 := short_size (n % 18446744073709551616)
  have y6 := text_size d
  have y7 := text_size (bodyR c p t m n d)
  have zpiece : ∀ (b : Bool) (x : ByteArray), (piece b x).size ≤ x.size := fun b x => piece_le b x
  have q1 := zpiece (c != 16) (textB p)
  have q2 := zpiece (formR c).1 (textB t)
  have q3 := zpiece (formR c).2.1 (textB m)
  have q4 := zpiece ((formR c).2.2.2.1 && (c == 15)) (strOfNums (fixedNums (n % 18446744073709551616)))
  have q5 := zpiece ((formR c).2.2.2.1 && (c != 15)) (strOfNums (shortNums 9 (n % 18446744073709551616)))
  have q6 := zpiece (formR c).2.2.1 (textB d)
  have hb : (bodyR c p t m n d).size ≤ 9000 := by
    unfold bodyR
    simp only [putB_piece, ByteArray.size_append]
    omega
  omega
theorem ba_list (s : ByteArray) : (⟨s.toList.toArray⟩ : ByteArray) = s := by
  rw [ByteArray.toList_eq]
theorem ba_app (L : List UInt8) (s : ByteArray) : (⟨(L ++ s.toList).toArray⟩ : ByteArray) = (⟨L.toArray⟩ : ByteArray) ++ s := by
  apply ByteArray.ext
  rw [ByteArray.data_append, ByteArray.toList_eq]
  simp
theorem tl_app (a b : ByteArray) : (a ++ b).toList = a.toList ++ b.toList := by
  rw [ByteArray.toList_eq, ByteArray.toList_eq, ByteArray.toList_eq, ByteArray.data_append]
  simp
theorem tl_len (s : ByteArray) : s.toList.length = s.size := by rw [ByteArray.toList_eq]; exact data_length s
theorem tl_nil (s : ByteArray) : s.toList = ([] : List UInt8) ↔ s.size = 0 := by
  rw [← tl_len, List.length_eq_zero_iff]
theorem ba_nil (s : ByteArray) (h : s.size = 0) : s = ⟨#[]⟩ := by
  have := ba_list s
  rw [(tl_nil s).2 h] at this
  exact this.symm
/-- The records of commands from number i on, behind what is there; the error and its record. -/
def textR : List Cm → Int → List UInt8 → ByteArray × Option (Int × Int)
  | [], _, L => (⟨L.toArray⟩, none)
  | x :: r, i, L => if goodC x = true then textR r (i + 1) (L ++ (recC x).toList) else (⟨#[]⟩, some (190, i))
theorem text_g (k : Nat) (hk : 3000 ≤ k) : ∀ (l : List Cm) (i : Int) (L : List UInt8), (∀ x ∈ l, Small x) → L.length + l.length * 10000 ≤ 100000000000000 → cmd_text.g k l i L = some (textR l i L)
  | [], _, _, _, _ => rfl
  | x :: r, i, L, hs, hz => by
    obtain ⟨⟨zp, zt, zm, zd⟩, hn⟩ := hs x (.head _)
    have z1 := recC_size x (hs x (.head _))
    have z2 := recC_pos x
    simp only [cmd_text.g, textR]
    rw [enc_f x.f0 x.f1 x.f2 x.f3 x.f4 x.f5 2000 zp zt zm zd (by omega) k (by omega), Option.bind_some]
    unfold encR
    show _ = some (if goodB x.f0 x.f1 x.f2 x.f3 x.f4 x.f5 = true then textR r (i + 1) (L ++ (recC x).toList) else (⟨#[]⟩, some (190, i)))
    by_cases hg : goodB x.f0 x.f1 x.f2 x.f3 x.f4 x.f5 = true
    · simp only [if_pos hg]
      rw [List.length_cons] at hz
      have e : textB (bodyR x.f0 x.f1 x.f2 x.f3 x.f4 x.f5) = recC x := rfl
      rw [e, if_pos ⟨by omega, by omega⟩]
      exact text_g k hk r _ _ (fun y hy => hs y (.tail _ hy)) (by rw [List.length_append, tl_len]; omega)
    · simp only [if_neg hg]
      rfl
theorem cText_f (k : Nat) (hk : 3000 ≤ k) (l : List Cm) (hs : ∀ x ∈ l, Small x) (hl : l.length ≤ 100000) :
    cmd_Text.f k l = some ((textR l 0 []).1, TellR.toldRec (textR l 0 []).2) := by
  unfold cmd_Text.f
  rw [if_pos (by omega), text_g k hk l 0 [] hs (by simp; omega), Option.bind_some]
/-- The document's spelling of it. -/
def docR : ByteArray × Option (Int × Int) → ByteArray × Int × Int
  | (t, none) => (t, 0, -1)
  | (t, some (c, i)) => (t, c, i)
theorem drop_rd (l : List Cm) (j : Nat) (hj : j < l.length) : l.drop j = rd_T23 l (j : Int) :: l.drop (j + 1) := by
  rw [List.drop_eq_getElem_cons hj]
  unfold rd_T23
  rw [Int.toNat_natCast, List.getD_eq_getElem?_getD, List.getElem?_eq_getElem hj]; rfl
theorem rd_mem (l : List Cm) (j : Nat) (hj : j < l.length) : rd_T23 l (j : Int) ∈ l := by
  have : rd_T23 l (j : Int) ∈ l.drop j := by rw [drop_rd l j hj]; exact .head _
  exact List.mem_of_mem_drop this
theorem wrap_j (j : Nat) (h : j ≤ 1000000000) : wrap64 ((j : Int) + 1) = ((j + 1 : Nat) : Int) := by unfold wrap64; omega
theorem rText_l (l : List Cm) (hs : ∀ x ∈ l, Small x) (hl : l.length ≤ 100000) : ∀ (n j k : Nat) (s : ByteArray), n = l.length - j → j ≤ l.length → n + 5000 ≤ k → s.size + n * 10000 ≤ 100000000000000 →
    coppiceref19_Text.l0 k l s (j : Int) = some (docR (textR (l.drop j) j s.toList)) := by
  intro n
  induction n with
  | zero =>
    intro j k s hn hj hk hz
    obtain ⟨k, rfl⟩ : ∃ q, k = q + 1 := ⟨k - 1, by omega⟩
    simp only [coppiceref19_Text.l0]
    rw [if_neg (by omega), List.drop_of_length_le (by omega)]
    show _ = some (docR (⟨s.toList.toArray⟩, none))
    rw [ba_list]; rfl
  | succ n ih =>
    intro j k s hn hj hk hz
    obtain ⟨k, rfl⟩ : ∃ q, k = q + 1 := ⟨k - 1, by omega⟩
    have hj2 : j < l.length := by omega
    have hm := hs _ (rd_mem l j hj2)
    rw [drop_rd l j hj2]
    simp only [coppiceref19_Text.l0]
    rw [if_pos (by omega), if_pos (by omega)]
    generalize rd_T23 l (j : Int) = x at *
    have z1 := recC_size x hm
    obtain ⟨⟨zp, zt, zm, zd⟩, hn2⟩ := hm
    rw [renc_f x.f0 x.f1 x.f2 x.f3 x.f4 x.f5 2000 zp zt zm zd (by omega) hn2 k (by omega), Option.bind_some]
    simp only [textR]
    have e : textB (bodyR x.f0 x.f1 x.f2 x.f3 x.f4 x.f5) = recC x := rfl
    unfold encR
    by_cases hg : goodB x.f0 x.f1 x.f2 x.f3 x.f4 x.f5 = true
    · have hg' : goodC x = true := hg
      rw [if_pos hg']
      simp only [if_pos hg, if_true]
      rw [e, if_pos (by omega), wrap_j j (by omega)]
      have := ih (j + 1) k (s ++ recC x) (by omega) (by omega) (by omega) (by rw [ByteArray.size_append]; omega)
      rw [this, tl_app]
      push_cast
      rfl
    · have hg' : ¬ goodC x = true := hg
      rw [if_neg hg']
      simp only [if_neg hg]
      rw [if_neg (by omega)]
      rfl
theorem rText_f (k : Nat) (hk : 200000 ≤ k) (l : List Cm) (hs : ∀ x ∈ l, Small x) (hl : l.length ≤ 100000) : coppiceref19_Text.f k l = some (docR (textR l 0 [])) := by
  unfold coppiceref19_Text.f
  have := rText_l l hs hl l.length 0 k ⟨#[]⟩ (by omega) (by omega) (by omega) (by have : (⟨#[]⟩ : ByteArray).size = 0 := rfl; omega)
  have e : (⟨#[]⟩ : ByteArray).toList = [] := by rw [ByteArray.toList_eq]
  rw [e, List.drop_zero] at this
  exact this
theorem great_l (l : List Cm) (hl : l.length ≤ 1000) : ∀ (n j k : Nat), n = l.length - j → j ≤ l.length → n + 1 ≤ k →
    coppiceref19_Great.l0 k l (j : Int) = some true ∨ (coppiceref19_Great.l0 k l (j : Int) = some false ∧ ∀ x ∈ l.drop j, x.f1.size ≤ 1500 ∧ x.f2.size ≤ 1500 ∧ x.f3.size ≤ 400 ∧ x.f5.size ≤ 400) := by
  intro n
  induction n with
  | zero =>
    intro j k hn hj hk
    obtain ⟨k, rfl⟩ : ∃ q, k = q + 1 := ⟨k - 1, by omega⟩
    simp only [coppiceref19_Great.l0]
    rw [if_neg (by omega), List.drop_of_length_le (by omega)]
    exact .inr ⟨rfl, fun x hx => by cases hx⟩
  | succ n ih =>
    intro j k hn hj hk
    obtain ⟨k, rfl⟩ : ∃ q, k = q + 1 := ⟨k - 1, by omega⟩
    have hj2 : j < l.length := by omega
    rw [drop_rd l j hj2]
    simp only [coppiceref19_Great.l0]
    rw [if_pos (by omega), if_pos (by omega)]
    generalize rd_T23 l (j : Int) = x at *
    by_cases h1 : (x.f1.size : Int) > 1500
    · rw [if_pos h1]; exact .inl rfl
    by_cases h2 : (x.f2.size : Int) > 1500
    · rw [if_neg h1, if_pos h2]; exact .inl rfl
    by_cases h3 : (x.f3.size : Int) > 400
    · rw [if_neg h1, if_neg h2, if_pos h3]; exact .inl rfl
    by_cases h4 : (x.f5.size : Int) > 400
    · rw [if_neg h1, if_neg h2, if_neg h3, if_pos h4]; exact .inl rfl
    rw [if_neg h1, if_neg h2, if_neg h3, if_neg h4, wrap_j j (by omega)]
    rcases ih (j + 1) k (by omega) (by omega) (by omega) with h | ⟨h, hx⟩
    · exact .inl h
    · refine .inr ⟨h, fun y hy => ?_⟩
      rcases List.mem_cons.1 hy with rfl | hy
      · exact ⟨by omega, by omega, by omega, by omega⟩
      · exact hx y hy
/-- Great, of many. -/
theorem great_f (l : List Cm) (k : Nat) (hk : 1000 ≤ k) : coppiceref19_Great.f k l = some true ∨ (coppiceref19_Great.f k l = some false ∧ l.length ≤ 300 ∧ ∀ x ∈ l, x.f1.size ≤ 1500 ∧ x.f2.size ≤ 1500 ∧ x.f3.size ≤ 400 ∧ x.f5.size ≤ 400) := by
  unfold coppiceref19_Great.f
  by_cases h : (l.length : Int) > 300
  · rw [if_pos h]; exact .inl rfl
  · rw [if_neg h]
    rcases great_l l (by omega) l.length 0 k (by omega) (by omega) (by omega) with h1 | ⟨h1, h2⟩
    · exact .inl h1
    · exact .inr ⟨h1, by omega, h2⟩
/-- All the records. -/
def recs : List Cm → ByteArray
  | [] => ⟨#[]⟩
  | x :: r => recC x ++ recs r
theorem textR_good : ∀ (l : List Cm) (i : Int) (L : List UInt8), (∀ x ∈ l, goodC x = true) → textR l i L = ((⟨L.toArray⟩ : ByteArray) ++ recs l, none)
  | [], i, L, _ => by
    show ((⟨L.toArray⟩ : ByteArray), none) = ((⟨L.toArray⟩ : ByteArray) ++ ⟨#[]⟩, none)
    rw [append_empty]
  | x :: r, i, L, h => by
    simp only [textR]
    rw [if_pos (h x (.head _)), textR_good r _ _ (fun y hy => h y (.tail _ hy)), ba_app, ByteArray.append_assoc]
    rfl
theorem textR_none : ∀ (l : List Cm) (i : Int) (L : List UInt8), (textR l i L).2 = none → ∀ x ∈ l, goodC x = true
  | x :: r, i, L, h => by
    simp only [textR] at h
    by_cases hg : goodC x = true
    · rw [if_pos hg] at h
      intro y hy
      rcases List.mem_cons.1 hy with rfl | hy
      · exact hg
      · exact textR_none r _ _ h y hy
    · rw [if_neg hg] at h; cases h
  | [], _, _, _ => fun x hx => by cases hx
theorem textR_code : ∀ (l : List Cm) (i : Int) (L : List UInt8), (textR l i L).2 = none ∨ ∃ j, i ≤ j ∧ textR l i L = (⟨#[]⟩, some (190, j))
  | [], _, _ => .inl rfl
  | x :: r, i, L => by
    simp only [textR]
    by_cases hg : goodC x = true
    · rw [if_pos hg]
      rcases textR_code r (i + 1) (L ++ (recC x).toList) with h | ⟨j, hj, h⟩
      · exact .inl h
      · exact .inr ⟨j, by omega, h⟩
    · rw [if_neg hg]; exact .inr ⟨i, by omega, rfl⟩
theorem recs_size : ∀ (l : List Cm), (∀ x ∈ l, Small x) → (recs l).size ≤ l.length * 10000
  | [], _ => by show (⟨#[]⟩ : ByteArray).size ≤ _; exact Nat.zero_le _
  | x :: r, h => by
    show (recC x ++ recs r).size ≤ _
    have := recs_size r (fun y hy => h y (.tail _ hy))
    have := recC_size x (h x (.head _))
    rw [ByteArray.size_append, List.length_cons]
    omega
end Go.Proofs.YtofdpgcnconibaaGreatDoor.CmdP
/-! Commands: what the document decodes is what the program decodes. -/
set_option linter.unusedVariables false
set_option linter.unusedSimpArgs false
namespace Go.Proofs.YtofdpgcnconibaaGreatDoor.CmdP
open Go.RowKit Go.Proofs.YtofdpgcnconibaaGreatDoor.PA Go.Proofs.YtofdpgcnconibaaGreatDoorW.PrintWords Go.Proofs.YtofdpgcnconibaaGreatDoorW.PrintLast Go.Proofs.YtofdpgcnconibaaGreatDoorW.PrintMore
open Go.Proofs.YtofdpgcnconibaaGreatDoor.Plain Go.Proofs.YtofdpgcnconibaaGreatDoor.PathP Go.Proofs.YtofdpgcnconibaaGreatDoor.TargetP Go.Proofs.YtofdpgcnconibaaGreatDoor.PackP Go.Proofs.YtofdpgcnconibaaGreatDoor.SimP
theorem rT_both (has : Bool) (s : ByteArray) (a e : Int) (R : ByteArray) (h : Sim s a R) (h2 : s.size ≤ 4611686018427387904) (k : Nat) (hk : 20 ≤ k) :
    ∃ v a' e' R', rdT k has s a e = some (v, s, a', e') ∧ rrT k has R e = some (v, R', e') ∧ Sim s a' R' ∧ v.size ≤ 2000 := by
  cases has with
  | true =>
    obtain ⟨v, a', e', R', g1, g2, g3, g4, -⟩ := text_both s a e R h h2 k hk 2000 ⟨by omega, by omega⟩
    exact ⟨v, a', e', R', g1, g2, g3, by omega⟩
  | false => exact ⟨⟨#[]⟩, a, e, R, rfl, rfl, h, Nat.zero_le _⟩
theorem rN_both (fx sh : Bool) (s : ByteArray) (a e : Int) (R : ByteArray) (h : Sim s a R) (h2 : s.size ≤ 4611686018427387904) (k : Nat) (hk : 20 ≤ k) :
    ∃ x a' e' R', rdN k fx sh s a e = some (wrap64 x, s, a', e') ∧ rrN k fx sh R e = some (x, R', e') ∧ Sim s a' R' ∧ (0 ≤ x ∧ x < 18446744073709551616) := by
  cases fx with
  | true =>
    obtain ⟨x, a', e', R', g1, g2, g3, g4, -⟩ := fixed_both s a e R h h2 k (by omega)
    refine ⟨x, a', e', R', ?_, g2, g3, g4⟩
    unfold rdN; rw [if_pos rfl, g1]; rfl
  | false =>
    cases sh with
    | true =>
      obtain ⟨x, a', e', R', g1, g2, g3, g4, -⟩ := short_both s a e R h h2 k hk
      refine ⟨x, a', e', R', ?_, g2, g3, g4⟩
      unfold rdN; rw [if_neg (by decide), if_pos rfl, g1]; rfl
    | false =>
      refine ⟨0, a, e, R, ?_, rfl, h, by omega⟩
      unfold rdN; rw [if_neg (by decide), if_neg (by decide)]
      have : wrap64 0 = 0 := by unfold wrap64; omega
      rw [this]
/-- A number that is too great is no command's. -/
theorem big_bad (b : Int) (hb : 1 ≤ b ∧ b ≤ 16) (h15 : b ≠ 15) (hN : (formR b).2.2.2.1 = true) (x : Int) (hx : x > 4611686018427387904) (hx2 : x < 18446744073709551616) (p t m d : ByteArray) : goodB b p t m (wrap64 x) d = false := by
  have hw : wrap64 x > 4611686018427387904 ∨ wrap64 x < 0 := by unfold wrap64; omega
  generalize wrap64 x = y at *
  cases hg : goodB b p t m y d with
  | false => rfl
  | true =>
    exfalso
    unfold goodB chkB at hg
    simp only [Bool.and_eq_true, decide_eq_true_eq] at hg
    obtain ⟨-, -, -, -, -, h6, h7⟩ := hg
    revert hN h6 h7
    rcases kinds b with rfl | rfl | rfl | rfl | rfl | rfl | rfl | rfl | rfl | rfl | rfl | rfl | rfl | rfl | rfl | rfl | h
    case inr.inr.inr.inr.inr.inr.inr.inr.inr.inr.inr.inr.inr.inr.inr.inr => omega
    all_goals (simp only [formR]; simp; try omega)
theorem is_form (b : Int) : (formR b).2.2.2.2.2.2 = true ↔ 1 ≤ b ∧ b ≤ 16 := by
  rcases kinds b with rfl | rfl | rfl | rfl | rfl | rfl | rfl | rfl | rfl | rfl | rfl | rfl | rfl | rfl | rfl | rfl | h
  case inr.inr.inr.inr.inr.inr.inr.inr.inr.inr.inr.inr.inr.inr.inr.inr =>
    have : (formR b).2.2.2.2.2.2 = false := by
      unfold formR
      repeat rw [if_neg (by omega)]
    rw [this]
    constructor
    · intro h; cases h
    · intro h; omega
  all_goals simp [formR]
theorem has_some (b : Int) : ∃ r, coppiceref19_Has.f b = some r := by
  unfold coppiceref19_Has.f
  repeat' split
  all_goals exact ⟨_, rfl⟩
/-- The rest of a record: the document's command is the program's. -/
theorem body_both (T : ByteArray) (hT : T.size ≤ 1000000) (k : Nat) (hk : 2000100 ≤ k) (L : Int) :
    ∃ c p t m n d code, ((pack_Reader_Byte.f T 0 0).bind fun q2 =>
    if 0 ≤ q2.1 ∧ q2.1 < 256 then
      (cmd_of.f k q2.1).bind fun o =>
      if o.2.2.2.2.2.2 = true then
        (rdT k (q2.1 != 16) q2.2.1 q2.2.2.1 q2.2.2.2).bind fun q3 =>
        (rdT k o.1 q3.2.1 q3.2.2.1 q3.2.2.2).bind fun q4 =>
        (rdT k o.2.1 q4.2.1 q4.2.2.1 q4.2.2.2).bind fun q5 =>
        (rdN k (o.2.2.2.1 && (q2.1 == 15)) o.2.2.2.1 q5.2.1 q5.2.2.1 q5.2.2.2).bind fun q6 =>
        (rdT k o.2.2.1 q6.2.1 q6.2.2.1 q6.2.2.2).bind fun q7 =>
        (pack_Reader_End.f q7.2.1 q7.2.2.1 q7.2.2.2).bind fun q8 =>
        if q8.1 = 0 then
          (cmd_check.f k q2.1 q3.1 q4.1 q5.1 q6.1 q7.1).bind fun r => match r with
            | some _ => some (noCmd 190)
            | none => some (q2.1, q3.1, q4.1, q5.1, q6.1, q7.1, L, none)
        else some (noCmd 190)
      else some (noCmd 190)
    else none) = some (c, p, t, m, n, d, (if code = 0 then L else 0), errO code) ∧ coppiceref19_body.f k T = some (c, p, t, m, n, d, code) ∧ ((code = 0) ∨ (code = 190 ∧ c = 0 ∧ p = ⟨#[]⟩ ∧ t = ⟨#[]⟩ ∧ m = ⟨#[]⟩ ∧ n = 0 ∧ d = ⟨#[]⟩)) := by
  have bad : ∃ c p t m n d code, some (noCmd 190) = some (c, p, t, m, n, d, (if code = 0 then L else 0), errO code) ∧ some (noRec 190) = some (c, p, t, m, n, d, code) ∧ ((code = 0) ∨ (code = 190 ∧ c = 0 ∧ p = ⟨#[]⟩ ∧ t = ⟨#[]⟩ ∧ m = ⟨#[]⟩ ∧ n = 0 ∧ d = ⟨#[]⟩)) :=
    ⟨0, ⟨#[]⟩, ⟨#[]⟩, ⟨#[]⟩, 0, ⟨#[]⟩, 190, rfl, rfl, .inr ⟨rfl, rfl, rfl, rfl, rfl, rfl, rfl⟩⟩
  obtain ⟨b, a2, e2, R2, hb, hq, i2, hb01, -⟩ := byte_both T 0 0 T (Sim.start T) (by omega)
  rw [hb, Option.bind_some]
  unfold coppiceref19_body.f
  rw [hq, Option.bind_some]
  dsimp only
  rw [if_pos hb01, if_pos hb01, of_f b k (by omega), Option.bind_some]
  by_cases hc : 1 ≤ b ∧ b ≤ 16
  · have his := (is_form b).2 hc
    rw [if_pos his, has_f b hc, Option.bind_some]
    dsimp only
    obtain ⟨p, a3, e3, R3, hp, hp', i3, zp⟩ := rT_both (b != 16) T a2 e2 R2 i2 (by omega) k (by omega)
    rw [hp, Option.bind_some, hp', Option.bind_some]
    dsimp only
    obtain ⟨t, a4, e4, R4, ht, ht', i4, zt⟩ := rT_both (formR b).1 T a3 e3 R3 i3 (by omega) k (by omega)
    rw [ht, Option.bind_some, ht', Option.bind_some]
    dsimp only
    obtain ⟨m, a5, e5, R5, hm, hm', i5, zm⟩ := rT_both (formR b).2.1 T a4 e4 R4 i4 (by omega) k (by omega)
    rw [hm, Option.bind_some, hm', Option.bind_some]
    dsimp only
    obtain ⟨x, a6, e6, R6, hn, hn', i6, hx⟩ := rN_both ((formR b).2.2.2.1 && (b == 15)) (formR b).2.2.2.1 T a5 e5 R5 i5 (by omega) k (by omega)
    rw [hn, Option.bind_some, hn', Option.bind_some]
    dsimp only
    obtain ⟨d, a7, e7, R7, hd, hd', i7, zd⟩ := rT_both (formR b).2.2.1 T a6 e6 R6 i6 (by omega) k (by omega)
    rw [hd, Option.bind_some]
    dsimp only
    obtain ⟨v, hv, hv', -⟩ := end_both T a7 e7 R7 i7 (by omega)
    rw [hv, Option.bind_some]
    dsimp only
    have hch := check_f b p t m (wrap64 x) d 2000 zp zt (by omega) k (by omega)
    by_cases hearly : ((formR b).2.2.2.1 && (b != 15)) = true ∧ x > 4611686018427387904
    · rw [if_pos hearly]
      obtain ⟨he1, he2⟩ := hearly
      rw [Bool.and_eq_true] at he1
      have hg := big_bad b hc (by simpa using he1.2) he1.1 x he2 hx.2 p t m d
      have hch' : cmd_check.f k b p t m (wrap64 x) d = some (some 190) := by rw [hch, hg]; rfl
      by_cases h8 : v = 0
      · rw [if_pos h8, hch', Option.bind_some]; exact bad
      · rw [if_neg h8]; exact bad
    · rw [if_neg hearly, hd', Option.bind_some]
      dsimp only
      rw [hv', Option.bind_some]
      dsimp only
      by_cases h8 : v = 0
      · rw [if_pos h8, if_pos h8, hch, Option.bind_some, right_f b p t m (wrap64 x) d 2000 zp zt zm zd (by omega) k (by omega), Option.bind_some, right_good b p t m (wrap64 x) (wrap_range x) d]
        by_cases hg : goodB b p t m (wrap64 x) d = true
        · rw [if_pos hg, if_pos hg]
          exact ⟨b, p, t, m, wrap64 x, d, 0, rfl, rfl, .inl rfl⟩
        · rw [if_neg hg, if_neg hg]; exact bad
      · rw [if_neg h8, if_neg h8]; exact bad
  · have his : ¬ (formR b).2.2.2.2.2.2 = true := fun h => hc ((is_form b).1 h)
    rw [if_neg his]
    obtain ⟨⟨o1, o2, o4, o3⟩, ho⟩ := has_some b
    rw [ho, Option.bind_some]
    dsimp only
    obtain ⟨p, a3, e3, R3, -, hp', i3, zp⟩ := rT_both (b != 16) T a2 e2 R2 i2 (by omega) k (by omega)
    rw [hp', Option.bind_some]
    dsimp only
    obtain ⟨t, a4, e4, R4, -, ht', i4, zt⟩ := rT_both o1 T a3 e3 R3 i3 (by omega) k (by omega)
    rw [ht', Option.bind_some]
    dsimp only
    obtain ⟨m, a5, e5, R5, -, hm', i5, zm⟩ := rT_both o2 T a4 e4 R4 i4 (by omega) k (by omega)
    rw [hm', Option.bind_some]
    dsimp only
    obtain ⟨x, a6, e6, R6, -, hn', i6, hx⟩ := rN_both (o4 && (b == 15)) o4 T a5 e5 R5 i5 (by omega) k (by omega)
    rw [hn', Option.bind_some]
    dsimp only
    obtain ⟨d, a7, e7, R7, -, hd', i7, zd⟩ := rT_both o3 T a6 e6 R6 i6 (by omega) k (by omega)
    by_cases hearly : (o4 && (b != 15)) = true ∧ x > 4611686018427387904
    · rw [if_pos hearly]; exact bad
    · rw [if_neg hearly, hd', Option.bind_some]
      dsimp only
      obtain ⟨v, -, hv', -⟩ := end_both T a7 e7 R7 i7 (by omega)
      rw [hv', Option.bind_some]
      dsimp only
      by_cases h8 : v = 0
      · rw [if_pos h8, right_f b p t m (wrap64 x) d 2000 zp zt zm zd (by omega) k (by omega), Option.bind_some, decide_eq_false hc, Bool.false_and, if_neg (by decide)]
        exact bad
      · rw [if_neg h8]; exact bad
theorem extract_both (s R : ByteArray) (a : Int) (h : Sim s a R) (n : Int) (hn0 : 0 ≤ n) (hn : n ≤ R.size) : R.extract 0 n.toNat = s.extract a.toNat (a + n).toNat := by
  have h0 := h.h0
  have h1 := h.h1
  have hz := h.size
  rw [h.hR]
  apply ext_list
  rw [extract_list, extract_list, extract_list, List.drop_zero, List.take_take]
  congr 1
  omega
theorem decode_both (s : ByteArray) (hs : s.size ≤ 1000000) (k : Nat) (hk : 2000100 ≤ k) :
    ∃ c p t m n d len code, cmd_decode.f k s = some (c, p, t, m, n, d, len, errO code) ∧ coppiceref19_Decode.f k s = some (c, p, t, m, n, d, len, code) := by
  have bad : ∀ x : Int, (x = 20 ∨ x = 190) → ∃ c p t m n d len code, some (noCmd x) = some (c, p, t, m, n, d, len, errO code) ∧ some (noRec2 x) = some (c, p, t, m, n, d, len, code) := by
    intro x hx
    refine ⟨0, ⟨#[]⟩, ⟨#[]⟩, ⟨#[]⟩, 0, ⟨#[]⟩, 0, x, ?_, rfl⟩
    unfold noCmd errO
    rw [if_neg (by omega)]
  obtain ⟨n, a1, e1, R, hp, hq, i1, hn, -⟩ := short_both s 0 0 s (Sim.start s) (by omega) k (by omega)
  have hz := i1.size
  have i0 := i1.h0
  have i1' := i1.h1
  have hr : rsl s 0 10 0 0 = some (n, s, a1, e1) := by rw [← short_ok s 0 (by omega) (by omega) (by omega)]; exact hp
  have he : e1 = 0 ∨ e1 = 20 ∨ e1 = 21 := by
    obtain ⟨n', at', e', hr', g⟩ := rsl_cases s 0 9 0 0 (by omega)
    replace hr' : rsl s 0 10 0 0 = some (n', s, at', e') := hr'
    rw [hr] at hr'
    simp only [Option.some.injEq, Prod.mk.injEq] at hr'
    omega
  unfold cmd_decode.f coppiceref19_Decode.f
  rw [hq, Option.bind_some]
  dsimp only
  by_cases h0 : e1 = 0
  · subst h0
    rw [if_neg (by decide), if_pos rfl, if_pos ⟨hn.1, by omega⟩]
    by_cases hl : n > (R.size : Int)
    · rw [if_pos hl]
      by_cases hl2 : n > (s.size : Int)
      · rw [text_long s 0 (by omega) (by omega) (by omega) k (by omega) (s.size : Int) n a1 ⟨by omega, by omega⟩ hr (.inr hl2), Option.bind_some]
        dsimp only
        rw [if_neg (by decide), if_neg (by decide)]
        exact bad 20 (.inl rfl)
      · rw [text_short s 0 (by omega) (by omega) (by omega) k (by omega) (s.size : Int) n a1 ⟨by omega, by omega⟩ hr ⟨by omega, by omega⟩ (by omega), Option.bind_some]
        dsimp only
        rw [if_neg (by decide), if_neg (by decide)]
        exact bad 20 (.inl rfl)
    · rw [if_neg hl, text_ok s 0 (by omega) (by omega) (by omega) k (by omega) (s.size : Int) n a1 ⟨by omega, by omega⟩ hr ⟨by omega, by omega⟩ (by omega), Option.bind_some]
      dsimp only
      rw [if_pos rfl, extract_both s R a1 i1 n hn.1 (by omega)]
      have hTz : (s.extract a1.toNat (a1 + n).toNat).size ≤ 1000000 := by rw [ByteArray.size_extract]; omega
      obtain ⟨c, p, t, m, n', d, code, h3, h4, h5⟩ := body_both (s.extract a1.toNat (a1 + n).toNat) hTz k hk (wrap64 ((s.size : Int) - wrap64 ((s.size : Int) - (a1 + n))))
      rw [h4, Option.bind_some]
      dsimp only
      rcases h5 with rfl | ⟨rfl, rfl, rfl, rfl, rfl, rfl, rfl⟩
      · rw [if_pos rfl] at h3
        refine ⟨c, p, t, m, n', d, _, 0, h3, ?_⟩
        rw [if_pos rfl]
        have e1 : wrap64 ((s.size : Int) - (a1 + n)) = (s.size : Int) - (a1 + n) := by unfold wrap64; omega
        have e2 : wrap64 ((s.size : Int) - ((s.size : Int) - (a1 + n))) = a1 + n := by unfold wrap64; omega
        have e3 : wrap64 ((s.size : Int) - (R.size : Int)) = a1 := by unfold wrap64; omega
        have e4 : wrap64 n = n := by unfold wrap64; omega
        have e5 : wrap64 (a1 + n) = a1 + n := by unfold wrap64; omega
        rw [e1, e2, e3, e4, e5]
      · rw [if_neg (by decide)] at h3
        refine ⟨0, ⟨#[]⟩, ⟨#[]⟩, ⟨#[]⟩, 0, ⟨#[]⟩, 0, 190, h3, ?_⟩
        rw [if_neg (by decide)]
        rfl
  · rw [text_err s 0 (by omega) (by omega) (by omega) k (s.size : Int) n a1 e1 hr h0, Option.bind_some]
    dsimp only
    rw [if_neg h0]
    rcases he with h | rfl | rfl
    · exact absurd h h0
    · rw [if_neg (by decide), if_pos rfl]; exact bad 20 (.inl rfl)
    · rw [if_pos rfl, if_neg (by decide), if_neg (by decide)]; exact bad 190 (.inr rfl)
end Go.Proofs.YtofdpgcnconibaaGreatDoor.CmdP
/-! Commands: the commands of records. -/
set_option linter.unusedVariables false
set_option linter.unusedSimpArgs false
namespace Go.Proofs.YtofdpgcnconibaaGreatDoor.CmdP
open Go.RowKit Go.Proofs.YtofdpgcnconibaaGreatDoor.PA Go.Proofs.YtofdpgcnconibaaGreatDoorW.PrintWords Go.Proofs.YtofdpgcnconibaaGreatDoorW.PrintLast Go.Proofs.YtofdpgcnconibaaGreatDoorW.PrintMore
open Go.Proofs.YtofdpgcnconibaaGreatDoor.Plain Go.Proofs.YtofdpgcnconibaaGreatDoor.PathP Go.Proofs.YtofdpgcnconibaaGreatDoor.TargetP
theorem All_f (k : Nat) (s : ByteArray) (l : List Cm) (r : Option (Int × Int)) (h : cmd_all.f k s = some (l, r)) : cmd_All.f k s = some (l, TellR.toldRec r) := by
  unfold cmd_All.f
  rw [h, Option.bind_some]
  rfl
theorem all_nil (k : Nat) (s : ByteArray) (acc : List Cm) (h : s.size = 0) : cmd_all.l0 (k + 1) s acc = some (acc, none) := by
  simp only [cmd_all.l0]
  rw [if_pos ((tl_nil s).2 h)]
theorem all_step (k : Nat) (s : ByteArray) (acc : List Cm) (x : Cm) (len : Int) (h : cmd_decode.f k s = some (x.f0, x.f1, x.f2, x.f3, x.f4, x.f5, len, none)) (hs : s.size ≠ 0) (h0 : 0 ≤ len) (h1 : len ≤ s.size) (ha : acc.length < 1759218604441) :
    cmd_all.l0 (k + 1) s acc = cmd_all.l0 k (s.extract len.toNat s.size) (acc ++ [x]) := by
  simp only [cmd_all.l0]
  rw [if_neg (fun e => hs ((tl_nil s).1 e)), h, Option.bind_some]
  dsimp only
  rw [if_pos (show (none : Option Int).isNone = true from rfl), if_pos ha, if_pos h0, if_pos h1]
theorem all_bad (k : Nat) (s : ByteArray) (acc : List Cm) (c : Int) (p t m : ByteArray) (n : Int) (d : ByteArray) (len code : Int) (h : cmd_decode.f k s = some (c, p, t, m, n, d, len, some code)) (hs : s.size ≠ 0) :
    cmd_all.l0 (k + 1) s acc = some ([], some (code, (acc.length : Int))) := by
  simp only [cmd_all.l0]
  rw [if_neg (fun e => hs ((tl_nil s).1 e)), h, Option.bind_some]
  dsimp only
  rw [if_neg (by simp)]
  rfl
theorem cut_front (a b : ByteArray) : (a ++ b).extract a.size (a ++ b).size = b := by
  have := PackP.mid_extract a b ⟨#[]⟩ a.size (a ++ b).size rfl ByteArray.size_append
  rw [append_empty] at this
  exact this
theorem all_recs : ∀ (l acc : List Cm) (k : Nat), (∀ x ∈ l, Small x ∧ goodC x = true) → acc.length + l.length ≤ 10000 → 2000000 + l.length ≤ k → cmd_all.l0 k (recs l) acc = some (acc ++ l, none)
  | [], acc, k, _, _, hk => by
    obtain ⟨k, rfl⟩ : ∃ q, k = q + 1 := ⟨k - 1, by omega⟩
    rw [all_nil k _ acc rfl, List.append_nil]
  | x :: r, acc, k, h, ha, hk => by
    rw [List.length_cons] at ha hk
    obtain ⟨k, rfl⟩ : ∃ q, k = q + 1 := ⟨k - 1, by omega⟩
    obtain ⟨hs, hg⟩ := h x (.head _)
    have z1 := recC_pos x
    have z2 := recs_size r (fun y hy => (h y (.tail _ hy)).1)
    obtain ⟨⟨zp, zt, zm, zd⟩, hn⟩ := hs
    have hd := decode_at x.f0 x.f1 x.f2 x.f3 x.f4 x.f5 hg zp zt zm zd hn (recs r) (by omega) k (by omega)
    show cmd_all.l0 (k + 1) (recC x ++ recs r) acc = _
    have e : (recC x ++ recs r).size = (recC x).size + (recs r).size := ByteArray.size_append
    rw [all_step k (recC x ++ recs r) acc x ((recC x).size : Int) hd (by omega) (by omega) (by omega) (by omega), Int.toNat_natCast, cut_front, all_recs r (acc ++ [x]) k (fun y hy => h y (.tail _ hy)) (by rw [List.length_append, List.length_singleton]; omega) (by omega), List.append_assoc]
    rfl
/-- The document's spelling. -/
def docL : List Cm × Option (Int × Int) → List Cm × Int × Int
  | (l, none) => (l, 0, -1)
  | (l, some (c, i)) => (l, c, i)
theorem rall_nil (k : Nat) (s : ByteArray) (acc : List Cm) (h : s.size = 0) : coppiceref19_All.l0 (k + 1) s acc = some (acc, 0, -1) := by
  simp only [coppiceref19_All.l0]
  rw [if_pos ((tl_nil s).2 h)]
theorem rall_step (k : Nat) (s : ByteArray) (acc : List Cm) (x : Cm) (len : Int) (h : coppiceref19_Decode.f k s = some (x.f0, x.f1, x.f2, x.f3, x.f4, x.f5, len, 0)) (hs : s.size ≠ 0) (h0 : 0 ≤ len) (h1 : len ≤ s.size) (ha : acc.length < 1759218604441) :
    coppiceref19_All.l0 (k + 1) s acc = coppiceref19_All.l0 k (s.extract len.toNat s.size) (acc ++ [x]) := by
  simp only [coppiceref19_All.l0]
  rw [if_neg (fun e => hs ((tl_nil s).1 e)), h, Option.bind_some]
  dsimp only
  rw [if_pos rfl, if_pos ha, if_pos h0, if_pos h1]
theorem rall_bad (k : Nat) (s : ByteArray) (acc : List Cm) (c : Int) (p t m : ByteArray) (n : Int) (d : ByteArray) (len code : Int) (h : coppiceref19_Decode.f k s = some (c, p, t, m, n, d, len, code)) (hc : code ≠ 0) (hs : s.size ≠ 0) :
    coppiceref19_All.l0 (k + 1) s acc = some ([], code, (acc.length : Int)) := by
  simp only [coppiceref19_All.l0]
  rw [if_neg (fun e => hs ((tl_nil s).1 e)), h, Option.bind_some]
  dsimp only
  rw [if_neg hc]
/-- What the program and the document find in whatever bytes. -/
theorem all_both : ∀ (z : Nat) (s : ByteArray) (acc : List Cm) (k : Nat), s.size ≤ z → z ≤ 100000 → acc.length + z ≤ 100000 → 2000200 + z ≤ k →
    ∃ q : List Cm × Option (Int × Int), cmd_all.l0 k s acc = some q ∧ coppiceref19_All.l0 k s acc = some (docL q) ∧
      ((q.2 = none ∧ ∃ m, q.1 = acc ++ m ∧ m.length ≤ z ∧ (∀ x ∈ m, Small x ∧ goodC x = true) ∧ recs m = s) ∨ (∃ c i, (c = 20 ∨ c = 190) ∧ q = ([], some (c, i)))) := by
  intro z
  induction z with
  | zero =>
    intro s acc k h1 h2 h3 hk
    obtain ⟨k, rfl⟩ : ∃ q, k = q + 1 := ⟨k - 1, by omega⟩
    refine ⟨(acc, none), all_nil k s acc (by omega), rall_nil k s acc (by omega), .inl ⟨rfl, [], (List.append_nil _).symm, Nat.le_refl _, (fun x hx => by cases hx), ?_⟩⟩
    exact (ba_nil s (by omega)).symm
  | succ z ih =>
    intro s acc k h1 h2 h3 hk
    obtain ⟨k, rfl⟩ : ∃ q, k = q + 1 := ⟨k - 1, by omega⟩
    by_cases hs : s.size = 0
    · refine ⟨(acc, none), all_nil k s acc hs, rall_nil k s acc hs, .inl ⟨rfl, [], (List.append_nil _).symm, Nat.zero_le _, (fun x hx => by cases hx), ?_⟩⟩
      exact (ba_nil s hs).symm
    obtain ⟨c, p, t, m, n, d, len, code, g1, g2⟩ := decode_both s (by omega) k (by omega)
    obtain ⟨c', p', t', m', n', d', len', code', g3, g4⟩ := decode_own s (by omega) k (by omega)
    rw [g1] at g3
    simp only [Option.some.injEq, Prod.mk.injEq] at g3
    obtain ⟨rfl, rfl, rfl, rfl, rfl, rfl, rfl, hco⟩ := g3
    rcases g4 with ⟨hc0, hg, l0, l1, hx, -, hz, hn⟩ | ⟨hc, -⟩
    · have h0 : code = 0 := by
        subst hc0
        unfold errO at hco
        by_cases h : code = 0
        · exact h
        · rw [if_neg h, if_pos rfl] at hco; cases hco
      subst h0
      have hrec : s.extract 0 len.toNat = recC ⟨c, p, t, m, n, d⟩ := hx
      have hlen : 1 ≤ len.toNat := by
        have := recC_pos ⟨c, p, t, m, n, d⟩
        rw [← hrec, ByteArray.size_extract] at this
        omega
      have hr := all_step k s acc ⟨c, p, t, m, n, d⟩ len g1 hs l0 l1 (by omega)
      have hr2 := rall_step k s acc ⟨c, p, t, m, n, d⟩ len g2 hs l0 l1 (by omega)
      obtain ⟨q, q1, q2, q3⟩ := ih (s.extract len.toNat s.size) (acc ++ [⟨c, p, t, m, n, d⟩]) k (by rw [ByteArray.size_extract]; omega) (by omega) (by rw [List.length_append, List.length_singleton]; omega) (by omega)
      refine ⟨q, hr.trans q1, hr2.trans q2, ?_⟩
      rcases q3 with ⟨e, r, e1, e2, e3, e4⟩ | e
      · refine .inl ⟨e, ⟨c, p, t, m, n, d⟩ :: r, by rw [e1, List.append_assoc]; rfl, by rw [List.length_cons]; omega, ?_, ?_⟩
        · intro y hy
          rcases List.mem_cons.1 hy with rfl | hy
          · exact ⟨⟨⟨hz.1, hz.2.1, hz.2.2.1, hz.2.2.2⟩, hn⟩, hg⟩
          · exact e3 y hy
        · show recC ⟨c, p, t, m, n, d⟩ ++ recs r = s
          rw [e4, ← hrec, ← extract_more s len.toNat s.size (by omega) (Nat.le_refl _), ByteArray.extract_zero_size]
      · exact .inr e
    · have h0 : code ≠ 0 ∧ (code = 20 ∨ code = 190) := by
        unfold errO at hco
        rw [if_neg (show ¬ code' = 0 by omega)] at hco
        by_cases h : code = 0
        · rw [if_pos h] at hco; cases hco
        · rw [if_neg h] at hco
          have := Option.some.inj hco
          omega
      have ge : errO code = some code := by unfold errO; rw [if_neg h0.1]
      rw [ge] at g1
      exact ⟨([], some (code, (acc.length : Int))), all_bad k s acc c p t m n d len code g1 hs, rall_bad k s acc c p t m n d len code g2 h0.1 hs, .inr ⟨code, _, h0.2, rfl⟩⟩
theorem same_l (l : List Cm) (hl : l.length ≤ 1000000) : ∀ (n j k : Nat), n = l.length - j → j ≤ l.length → n + 1 ≤ k → coppiceref19_Same.l0 k l l (j : Int) = some true := by
  intro n
  induction n with
  | zero =>
    intro j k hn hj hk
    obtain ⟨k, rfl⟩ : ∃ q, k = q + 1 := ⟨k - 1, by omega⟩
    simp only [coppiceref19_Same.l0]
    rw [if_neg (by omega)]
  | succ n ih =>
    intro j k hn hj hk
    obtain ⟨k, rfl⟩ : ∃ q, k = q + 1 := ⟨k - 1, by omega⟩
    simp only [coppiceref19_Same.l0]
    rw [if_pos (by omega), if_pos (by omega), if_pos (by omega), if_neg (by simp), wrap_j j (by omega)]
    exact ih (j + 1) k (by omega) (by omega) (by omega)
theorem same_f (l : List Cm) (hl : l.length ≤ 1000000) (k : Nat) (hk : 1000001 ≤ k) : coppiceref19_Same.f k l l = some true := by
  unfold coppiceref19_Same.f
  rw [if_pos rfl]
  exact same_l l hl l.length 0 k (by omega) (by omega) (by omega)
end Go.Proofs.YtofdpgcnconibaaGreatDoor.CmdP
