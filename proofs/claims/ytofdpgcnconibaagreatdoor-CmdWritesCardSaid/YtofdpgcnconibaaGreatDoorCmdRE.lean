import Derived.Test.YtofdpgcnconibaaGreatDoorPAx2
import Derived.Test.YtofdpgcnconibaaGreatDoorPAx7
import Derived.Test.YtofdpgcnconibaaGreatDoorPAx8
import Derived.Test.YtofdpgcnconibaaGreatDoorPathLo
import Derived.Test.YtofdpgcnconibaaGreatDoorTarget
import Derived.Test.YtofdpgcnconibaaGreatDoorPAx10
import Derived.Test.YtofdpgcnconibaaGreatDoorPAx11
import Derived.Test.YtofdpgcnconibaaGreatDoorPAx13
import Derived.Test.YtofdpgcnconibaaGreatDoorPAx17
import Derived.Test.YtofdpgcnconibaaGreatDoorPAx18
import Derived.Test.YtofdpgcnconibaaGreatDoorPAx19
import Derived.Test.YtofdpgcnconibaaGreatDoorPathLp
import Derived.Test.YtofdpgcnconibaaGreatDoorTargetR
import Derived.Test.YtofdpgcnconibaaGreatDoorPAx12
import Derived.Test.YtofdpgcnconibaaGreatDoorPAx22
import Derived.Test.YtofdpgcnconibaaGreatDoorBytes
import Derived.Test.YtofdpgcnconibaaGreatDoorPAx20
import Derived.Test.YtofdpgcnconibaaGreatDoorPAx21
import Derived.Test.YtofdpgcnconibaaGreatDoorRef02
/-! Commands: the program's forms and checks, plain. -/
set_option linter.unusedVariables false
set_option linter.unusedSimpArgs false
namespace Go.Proofs.YtofdpgcnconibaaGreatDoor.CmdP
open Go.RowKit Go.Proofs.YtofdpgcnconibaaGreatDoor.PA Go.Proofs.YtofdpgcnconibaaGreatDoorW.PrintWords Go.Proofs.YtofdpgcnconibaaGreatDoorW.PrintLast Go.Proofs.YtofdpgcnconibaaGreatDoorW.PrintMore
open Go.Proofs.YtofdpgcnconibaaGreatDoor.Plain Go.Proofs.YtofdpgcnconibaaGreatDoor.PathP Go.Proofs.YtofdpgcnconibaaGreatDoor.TargetP
/-- A kind's form: to, name, data, n, least, most; is there one? -/
def formR (c : Int) : Bool × Bool × Bool × Bool × Int × Int × Bool :=
  if c = 3 then (false, false, true, true, 2, 1099511627776, true) else
  if c = 1 ∨ c = 2 then (false, false, false, true, 2, 1099511627776, true) else
  if c = 4 ∨ c = 5 then (true, false, false, false, 0, 0, true) else
  if c = 6 ∨ c = 7 then (false, false, false, false, 0, 0, true) else
  if c = 8 then (false, false, false, true, 0, 4611686018427387904, true) else
  if c = 9 then (false, false, true, true, 0, 72057594037927935, true) else
  if c = 10 then (false, false, false, true, 1, 72057594037927935, true) else
  if c = 11 then (false, false, false, true, 0, 72057594037927935, true) else
  if c = 12 then (false, true, true, false, 0, 0, true) else
  if c = 13 then (false, true, false, false, 0, 0, true) else
  if c = 14 then (false, false, false, true, 0, 4095, true) else
  if c = 15 then (false, false, false, true, -9223372036854775808, 9223372036854775807, true) else
  if c = 16 then (false, false, false, true, 2, 1099511627777, true) else (false, false, false, false, 0, 0, false)
theorem kinds (c : Int) : c = 1 ∨ c = 2 ∨ c = 3 ∨ c = 4 ∨ c = 5 ∨ c = 6 ∨ c = 7 ∨ c = 8 ∨ c = 9 ∨ c = 10 ∨ c = 11 ∨ c = 12 ∨ c = 13 ∨ c = 14 ∨ c = 15 ∨ c = 16 ∨ (c < 1 ∨ 16 < c) := by omega
theorem of_f (c : Int) (k : Nat) (hk : 5 ≤ k) : cmd_of.f k c = some (formR c) := by
  obtain ⟨k, rfl⟩ : ∃ q, k = q + 5 := ⟨k - 5, by omega⟩
  rcases kinds c with rfl | rfl | rfl | rfl | rfl | rfl | rfl | rfl | rfl | rfl | rfl | rfl | rfl | rfl | rfl | rfl | h
  case inr.inr.inr.inr.inr.inr.inr.inr.inr.inr.inr.inr.inr.inr.inr.inr =>
    have n1 : c ≠ 1 := by omega
    have n2 : c ≠ 2 := by omega
    have n3 : c ≠ 3 := by omega
    have n4 : c ≠ 4 := by omega
    have n5 : c ≠ 5 := by omega
    have n6 : c ≠ 6 := by omega
    have n7 : c ≠ 7 := by omega
    have n8 : c ≠ 8 := by omega
    have n9 : c ≠ 9 := by omega
    have n10 : c ≠ 10 := by omega
    have n11 : c ≠ 11 := by omega
    have n12 : c ≠ 12 := by omega
    have n13 : c ≠ 13 := by omega
    have n14 : c ≠ 14 := by omega
    have n15 : c ≠ 15 := by omega
    have n16 : c ≠ 16 := by omega
    simp [cmd_of.f, cmd_of.j0, cmd_of.j1, cmd_of.j2, formR, *]
  all_goals (simp [cmd_of.f, cmd_of.j0, cmd_of.j1, cmd_of.j2, formR])
/-- A loose path. -/
def looseOk (s : ByteArray) : Bool := (looseR s).2 == 0
theorem cloose_f (s : ByteArray) (hs : s.size ≤ 1000000) (k : Nat) (hk : s.size + 10 ≤ k) : cmd_loose.f k s = some (looseOk s) := by
  unfold cmd_loose.f
  rw [ploose_f s hs k hk]; rfl
/-- Data that fit. -/
def fitsB (c : Int) (d : ByteArray) : Bool :=
  if c = 3 then tgt d else if c = 9 then decide (d.size = 64) else if c = 12 then decide (d.size ≤ 120) else decide (d.size = 0)
theorem fits_f (c : Int) (p t m : ByteArray) (n : Int) (d : ByteArray) : cmd_fits.f c p t m n d = some (fitsB c d) := by
  unfold cmd_fits.f fitsB
  by_cases h3 : c = 3
  · rw [if_pos h3, if_pos h3, target_ok]; rfl
  · rw [if_neg h3, if_neg h3]
    by_cases h9 : c = 9
    · rw [if_pos h9, if_pos h9]; congr 1; rw [Bool.eq_iff_iff]; simp; omega
    · rw [if_neg h9, if_neg h9]
      by_cases h12 : c = 12
      · rw [if_pos h12, if_pos h12]; congr 1; rw [Bool.eq_iff_iff]; simp; omega
      · rw [if_neg h12, if_neg h12]
        congr 1
        rw [Bool.eq_iff_iff, beq_iff_eq, decide_eq_true_iff]
        exact nil_iff d
/-- A command of a form. -/
def chkB (o : Bool × Bool × Bool × Bool × Int × Int × Bool) (c : Int) (p t m : ByteArray) (n : Int) (d : ByteArray) : Bool :=
  o.2.2.2.2.2.2 && ((if c = 16 then decide (p.size = 0) else looseOk p) && (fitsB c d && ((if o.1 = true then looseOk t else decide (t.size = 0)) &&
    ((if o.2.1 = true then nameB m else decide (m.size = 0)) && (decide (o.2.2.2.2.1 ≤ n) && decide (n ≤ o.2.2.2.2.2.1))))))
def goodB (c : Int) (p t m : ByteArray) (n : Int) (d : ByteArray) : Bool := chkB (formR c) c p t m n d
theorem nil_beq (s : ByteArray) : (s.toList == ([] : List UInt8)) = decide (s.size = 0) := by
  rw [Bool.eq_iff_iff, beq_iff_eq, decide_eq_true_iff]; exact nil_iff s
theorem nil_bne (s : ByteArray) : (s.toList != ([] : List UInt8)) = !decide (s.size = 0) := by
  show (!(s.toList == ([] : List UInt8))) = _
  rw [nil_beq]
theorem check_f (c : Int) (p t m : ByteArray) (n : Int) (d : ByteArray) (N : Nat) (hp : p.size ≤ N) (ht : t.size ≤ N) (hN : N ≤ 1000000) (k : Nat) (hk : N + 30 ≤ k) :
    cmd_check.f k c p t m n d = some (if goodB c p t m n d = true then none else some 190) := by
  obtain ⟨k, rfl⟩ : ∃ q, k = q + 8 := ⟨k - 8, by omega⟩
  unfold cmd_check.f goodB chkB
  rw [of_f c _ (by omega), Option.bind_some, nil_beq]
  obtain ⟨o1, o2, o3, o4, o5, o6, o7⟩ := formR c
  have key : ∀ b : Bool, cmd_check.j0 (k + 8) o7 b c p t m n d o1 o2 o3 o4 o5 o6 = some (if (o7 && (b && (fitsB c d && ((if o1 = true then looseOk t else decide (t.size = 0)) &&
      ((if o2 = true then nameB m else decide (m.size = 0)) && (decide (o5 ≤ n) && decide (n ≤ o6))))))) = true then none else some 190) := by
    intro b
    simp only [cmd_check.j0, cmd_check.j1, cmd_check.j2, cmd_check.j3, cmd_check.j4, cmd_check.j5, fits_f, cloose_f t (by omega) (k + 6) (by omega), name_f, Option.bind_some, nil_bne]
    rcases Int.lt_or_le n o5 with hn | hn
    · have e1 : decide (o5 ≤ n) = false := decide_eq_false (by omega)
      rw [e1, if_pos hn]
      cases o7 <;> cases b <;> cases fitsB c d <;> cases o1 <;> cases o2 <;> cases looseOk t <;> cases decide (t.size = 0) <;> cases nameB m <;> cases decide (m.size = 0) <;> rfl
    · have e1 : decide (o5 ≤ n) = true := decide_eq_true hn
      rw [e1, if_neg (by omega : ¬ n < o5)]
      rcases Int.lt_or_le o6 n with hm | hm
      · have e2 : decide (n ≤ o6) = false := decide_eq_false (by omega)
        rw [e2, if_pos (by omega : n > o6)]
        cases o7 <;> cases b <;> cases fitsB c d <;> cases o1 <;> cases o2 <;> cases looseOk t <;> cases decide (t.size = 0) <;> cases nameB m <;> cases decide (m.size = 0) <;> rfl
      · have e2 : decide (n ≤ o6) = true := decide_eq_true hm
        rw [e2, if_neg (by omega : ¬ n > o6)]
        cases o7 <;> cases b <;> cases fitsB c d <;> cases o1 <;> cases o2 <;> cases looseOk t <;> cases decide (t.size = 0) <;> cases nameB m <;> cases decide (m.size = 0) <;> rfl
  by_cases h16 : c = 16
  · rw [if_pos h16, key, if_pos h16]
  · rw [if_neg h16, cloose_f p (by omega) _ (by omega), Option.bind_some, key, if_neg h16]
end Go.Proofs.YtofdpgcnconibaaGreatDoor.CmdP
/-! Commands: the program's records. -/
set_option linter.unusedVariables false
set_option linter.unusedSimpArgs false
namespace Go.Proofs.YtofdpgcnconibaaGreatDoor.CmdP
open Go.RowKit Go.Proofs.YtofdpgcnconibaaGreatDoor.PA Go.Proofs.YtofdpgcnconibaaGreatDoorW.PrintWords Go.Proofs.YtofdpgcnconibaaGreatDoorW.PrintLast Go.Proofs.YtofdpgcnconibaaGreatDoorW.PrintMore
open Go.Proofs.YtofdpgcnconibaaGreatDoor.Plain Go.Proofs.YtofdpgcnconibaaGreatDoor.PathP Go.Proofs.YtofdpgcnconibaaGreatDoor.TargetP
/-- A record's bytes behind their length. -/
def bodyR (c : Int) (p t m : ByteArray) (n : Int) (d : ByteArray) : ByteArray :=
  putB (putB (putB (putB (putB (putB (strOfNums [c % 256]) (c != 16) (textB p)) (formR c).1 (textB t)) (formR c).2.1 (textB m)) ((formR c).2.2.2.1 && (c == 15)) (strOfNums (fixedNums (n % 18446744073709551616)))) ((formR c).2.2.2.1 && (c != 15)) (strOfNums (shortNums 9 (n % 18446744073709551616)))) (formR c).2.2.1 (textB d)
/-- A record, or the error. -/
def encR (c : Int) (p t m : ByteArray) (n : Int) (d : ByteArray) : ByteArray × Int := if goodB c p t m n d = true then (textB (bodyR c p t m n d), 0) else (⟨#[]⟩, 190)
theorem enc_f (c : Int) (p t m : ByteArray) (n : Int) (d : ByteArray) (N : Nat) (hp : p.size ≤ N) (ht : t.size ≤ N) (hm : m.size ≤ N) (hd : d.size ≤ N) (hN : N ≤ 1000000) (k : Nat) (hk : N + 30 ≤ k) :
    cmd_encode.f k c p t m n d = some ((encR c p t m n d).1, if goodB c p t m n d = true then none else some 190) := by
  unfold cmd_encode.f encR
  rw [check_f c p t m n d N hp ht hN k hk, Option.bind_some]
  by_cases h : goodB c p t m n d = true
  · rw [if_pos h, if_pos h]
    show (cmd_of.f k c).bind _ = _
    rw [of_f c k (by omega), Option.bind_some, if_pos (by omega)]
    rfl
  · rw [if_neg h, if_neg h]
theorem tell_none : api_Tell.f none = some (0, 0, 0) := rfl
theorem tell_some (e : Int) : api_Tell.f (some e) = some (e, 0, -1) := rfl
/-- What is told of an error number of no record. -/
def toldR (e : Int) : Int × Int × Int := if e = 0 then (0, 0, 0) else (e, 0, -1)
theorem Enc_f (c : Int) (p t m : ByteArray) (n : Int) (d : ByteArray) (N : Nat) (hp : p.size ≤ N) (ht : t.size ≤ N) (hm : m.size ≤ N) (hd : d.size ≤ N) (hN : N ≤ 1000000) (k : Nat) (hk : N + 30 ≤ k) :
    cmd_Encode.f k c p t m n d = some ((encR c p t m n d).1, toldR (encR c p t m n d).2) := by
  unfold cmd_Encode.f
  rw [enc_f c p t m n d N hp ht hm hd hN k hk, Option.bind_some]
  unfold encR toldR
  by_cases h : goodB c p t m n d = true
  · rw [if_pos h, if_pos h, tell_none]; rfl
  · rw [if_neg h, if_neg h, tell_some]; rfl
theorem awake19 (k : Nat) (hk : 100 ≤ k) : coppicelaw19_awake.f k = some true := by
  unfold coppicelaw19_awake.f
  have z0 : (⟨#[]⟩ : ByteArray).size = 0 := rfl
  have z2 : (⟨#[47, 97]⟩ : ByteArray).size = 2 := rfl
  rw [Enc_f _ _ _ _ _ _ 2 (by omega) (by omega) (by omega) (by omega) (by omega) k (by omega), Option.bind_some, Enc_f _ _ _ _ _ _ 2 (by omega) (by omega) (by omega) (by omega) (by omega) k (by omega), Option.bind_some]
  have hl : looseOk (⟨#[47, 97]⟩ : ByteArray) = true := by
    have hn : nameB (⟨#[97]⟩ : ByteArray) = true := by
      unfold nameB nameOk
      rw [ByteArray.toList_eq]
      decide +kernel
    unfold looseOk looseR pathNames
    have hc : cutS (ofL (⟨#[47, 97]⟩ : ByteArray).data.toList.tail) = [⟨#[97]⟩] := by decide +kernel
    rw [if_neg (by decide), if_pos (by decide), hc, if_pos ⟨by decide, by
      simp only [List.head?_cons, Option.any_some]
      unfold looseB
      rw [hn, Bool.or_true], by rfl⟩]
    rfl
  have h1 : goodB 6 (⟨#[47, 97]⟩ : ByteArray) ⟨#[]⟩ ⟨#[]⟩ 0 ⟨#[]⟩ = true := by
    unfold goodB chkB
    rw [hl]
    decide +kernel
  have h2 : goodB 0 (⟨#[]⟩ : ByteArray) ⟨#[]⟩ ⟨#[]⟩ 0 ⟨#[]⟩ = false := by
    unfold goodB chkB formR
    simp
  unfold encR
  rw [if_pos h1, if_neg (Bool.eq_false_iff.1 h2)]
  have hb : (textB (bodyR 6 (⟨#[47, 97]⟩ : ByteArray) ⟨#[]⟩ ⟨#[]⟩ 0 ⟨#[]⟩)).toList = [4, 6, 2, 47, 97] := by
    rw [ByteArray.toList_eq]; decide +kernel
  rw [hb]
  decide +kernel
end Go.Proofs.YtofdpgcnconibaaGreatDoor.CmdP
/-! Commands: the document's Right. -/
set_option linter.unusedVariables false
set_option linter.unusedSimpArgs false
namespace Go.Proofs.YtofdpgcnconibaaGreatDoor.CmdP
open Go.RowKit Go.Proofs.YtofdpgcnconibaaGreatDoor.PA Go.Proofs.YtofdpgcnconibaaGreatDoorW.PrintWords Go.Proofs.YtofdpgcnconibaaGreatDoorW.PrintLast Go.Proofs.YtofdpgcnconibaaGreatDoorW.PrintMore
open Go.Proofs.YtofdpgcnconibaaGreatDoor.Plain Go.Proofs.YtofdpgcnconibaaGreatDoor.PathP Go.Proofs.YtofdpgcnconibaaGreatDoor.TargetP
theorem has_f (c : Int) (hc : 1 ≤ c ∧ c ≤ 16) : coppiceref19_Has.f c = some ((formR c).1, (formR c).2.1, (formR c).2.2.2.1, (formR c).2.2.1) := by
  rcases kinds c with rfl | rfl | rfl | rfl | rfl | rfl | rfl | rfl | rfl | rfl | rfl | rfl | rfl | rfl | rfl | rfl | h
  case inr.inr.inr.inr.inr.inr.inr.inr.inr.inr.inr.inr.inr.inr.inr.inr => omega
  all_goals (simp [coppiceref19_Has.f, formR])
/-- The bounds of N, where a kind has one; all numbers where it hasn't. -/
def boundsR (c : Int) : Int × Int := if (formR c).2.2.2.1 = true then ((formR c).2.2.2.2.1, (formR c).2.2.2.2.2.1) else (-9223372036854775808, 9223372036854775807)
theorem bounds_f (c : Int) (hc : 1 ≤ c ∧ c ≤ 16) (k : Nat) (hk : 3 ≤ k) : coppiceref19_bounds.f k c = some (boundsR c) := by
  obtain ⟨k, rfl⟩ : ∃ q, k = q + 3 := ⟨k - 3, by omega⟩
  rcases kinds c with rfl | rfl | rfl | rfl | rfl | rfl | rfl | rfl | rfl | rfl | rfl | rfl | rfl | rfl | rfl | rfl | h
  case inr.inr.inr.inr.inr.inr.inr.inr.inr.inr.inr.inr.inr.inr.inr.inr => omega
  all_goals (simp [coppiceref19_bounds.f, coppiceref19_bounds.j0, coppiceref19_bounds.j1, boundsR, formR])
theorem rrloose_f (s : ByteArray) (hs : s.size ≤ 1000000) (k : Nat) (hk : 2 * s.size + 50 ≤ k) : coppiceref19_loose.f k s = some (looseOk s) := by
  unfold coppiceref19_loose.f
  rw [rloose_f s hs k hk]; rfl
/-- The document's word for data. -/
def dataB (c : Int) (d : ByteArray) : Bool := (c != 3 || tgt d) && ((c != 9 || decide (d.size = 64)) && (c != 12 || decide (d.size ≤ 120)))
/-- The document's command, of a form. -/
def rightB (o1 o2 o3 o4 : Bool) (b1 b2 : Int) (c : Int) (p t m : ByteArray) (n : Int) (d : ByteArray) : Bool :=
  (if c = 16 then decide (p.size = 0) else looseOk p) && ((if o1 = true then looseOk t else decide (t.size = 0)) && ((if o2 = true then nameB m else decide (m.size = 0)) &&
    ((o3 || decide (n = 0)) && ((o4 || decide (d.size = 0)) && ((!o3 || (decide (b1 ≤ n) && decide (n ≤ b2))) && dataB c d)))))
theorem right_j2 (k : Nat) (o3 x : Bool) (c : Int) (hc : 1 ≤ c ∧ c ≤ 16) (p t m : ByteArray) (n : Int) (d : ByteArray) (hd : d.size < k) (hd2 : d.size ≤ 1000000) (hk : 5 ≤ k) :
    coppiceref19_Right.j2 (k + 1) o3 x c p t m n d = some (!x && ((!o3 || (decide ((boundsR c).1 ≤ n) && decide (n ≤ (boundsR c).2))) && dataB c d)) := by
  simp only [coppiceref19_Right.j2, bounds_f c hc k (by omega), rtarget_ok d (by omega) k hd, Option.bind_some]
  have key : (if c = 3 then (if tgt d = true then (if c = 9 then (if (d.size : Int) = 64 then (if c = 12 then some (!(decide ((d.size : Int) > 120))) else some (!false)) else some (!true)) else if c = 12 then some (!(decide ((d.size : Int) > 120))) else some (!false)) else some (!true))
      else if c = 9 then (if (d.size : Int) = 64 then (if c = 12 then some (!(decide ((d.size : Int) > 120))) else some (!false)) else some (!true)) else if c = 12 then some (!(decide ((d.size : Int) > 120))) else some (!false)) = some (dataB c d) := by
    have e64 : ((d.size : Int) = 64) = (d.size = 64) := propext (by omega)
    have e120 : decide ((d.size : Int) > 120) = !decide (d.size ≤ 120) := by rw [Bool.eq_iff_iff]; simp; omega
    rw [e120]
    simp only [e64]
    unfold dataB
    by_cases h3 : c = 3
    · subst h3; simp; cases tgt d <;> simp
    · by_cases h9 : c = 9
      · subst h9; simp; by_cases h : d.size = 64 <;> simp [h]
      · by_cases h12 : c = 12
        · subst h12; simp
        · have e3 : (c != 3) = true := by simp [h3]
          have e9 : (c != 9) = true := by simp [h9]
          have e12 : (c != 12) = true := by simp [h12]
          rw [e3, e9, e12]; simp [h3, h9, h12]
  rw [key]
  cases x with
  | true => rfl
  | false =>
    cases o3 with
    | false => simp
    | true =>
      rcases Int.lt_or_le n (boundsR c).1 with h1 | h1
      · simp [h1, Int.not_le.2 h1]
      · rcases Int.lt_or_le (boundsR c).2 n with h2 | h2
        · simp [h1, Int.not_lt.2 h1, h2, Int.not_le.2 h2]
        · simp [h1, Int.not_lt.2 h1, h2, Int.not_lt.2 h2]
theorem right_j1 (k : Nat) (o2 o3 o4 x : Bool) (c : Int) (hc : 1 ≤ c ∧ c ≤ 16) (p t m : ByteArray) (n : Int) (d : ByteArray) (hm : m.size + 10 ≤ k) (hm2 : m.size ≤ 1000000) (hd : d.size + 10 ≤ k) (hd2 : d.size ≤ 1000000) :
    coppiceref19_Right.j1 (k + 1) o2 o3 o4 x c p t m n d = some (!x && ((if o2 = true then nameB m else decide (m.size = 0)) &&
      ((o3 || decide (n = 0)) && ((o4 || decide (d.size = 0)) && ((!o3 || (decide ((boundsR c).1 ≤ n) && decide (n ≤ (boundsR c).2))) && dataB c d))))) := by
  obtain ⟨k, rfl⟩ : ∃ q, k = q + 1 := ⟨k - 1, by omega⟩
  simp only [coppiceref19_Right.j1, rname_f m hm2 (k + 1) (by omega), Option.bind_some, nil_bne, right_j2 k _ _ c hc p t m n d (by omega) hd2 (by omega)]
  have em : (m.toList = ([] : List UInt8)) = (m.size = 0) := propext (nil_iff m)
  simp only [em]
  generalize ((!o3 || (decide ((boundsR c).1 ≤ n) && decide (n ≤ (boundsR c).2))) && dataB c d) = z
  by_cases hn : n = 0 <;> by_cases hz : m.size = 0 <;> simp only [hn, hz] <;> cases x <;> cases o2 <;> cases o3 <;> cases o4 <;> cases nameB m <;> simp
theorem right_f (c : Int) (p t m : ByteArray) (n : Int) (d : ByteArray) (N : Nat) (hp : p.size ≤ N) (ht : t.size ≤ N) (hm : m.size ≤ N) (hd : d.size ≤ N) (hN : N ≤ 1000000) (k : Nat) (hk : 2 * N + 60 ≤ k) :
    coppiceref19_Right.f k c p t m n d = some (decide (1 ≤ c ∧ c ≤ 16) && rightB (formR c).1 (formR c).2.1 (formR c).2.2.2.1 (formR c).2.2.1 (boundsR c).1 (boundsR c).2 c p t m n d) := by
  obtain ⟨k, rfl⟩ : ∃ q, k = q + 3 := ⟨k - 3, by omega⟩
  unfold coppiceref19_Right.f
  by_cases hc : 1 ≤ c ∧ c ≤ 16
  · rw [if_neg (by omega), decide_eq_false (by omega), decide_eq_true hc, Bool.true_and]
    have et : (t.toList != ([] : List UInt8)) = !decide (t.size = 0) := nil_bne t
    have ep : (p.toList = ([] : List UInt8)) = (p.size = 0) := propext (nil_iff p)
    simp only [coppiceref19_Right.j0, has_f c hc, rrloose_f p (by omega) (k + 2) (by omega), rrloose_f t (by omega) (k + 2) (by omega), Option.bind_some, et, ep, right_j1 (k + 1) _ _ _ _ c hc p t m n d (by omega) (by omega) (by omega) (by omega)]
    unfold rightB
    generalize ((if (formR c).2.1 = true then nameB m else decide (m.size = 0)) && ((((formR c).2.2.2.1 || decide (n = 0)) && (((formR c).2.2.1 || decide (d.size = 0)) && ((!(formR c).2.2.2.1 || (decide ((boundsR c).1 ≤ n) && decide (n ≤ (boundsR c).2))) && dataB c d))))) = z
    generalize (formR c).1 = o1
    generalize decide (t.size = 0) = q1
    generalize looseOk t = q2
    generalize looseOk p = q3
    by_cases h16 : c = 16 <;> by_cases hz : p.size = 0 <;> simp only [h16, hz, if_true, if_false, decide_true, decide_false] <;> cases o1 <;> cases q1 <;> cases q2 <;> cases q3 <;> simp
  · rw [decide_eq_false hc, Bool.false_and]
    by_cases h : c < 1
    · rw [if_pos h]; rfl
    · rw [if_neg h, decide_eq_true (by omega)]; rfl
/-- The document's word is the program's. -/
theorem right_good (c : Int) (p t m : ByteArray) (n : Int) (hn : -9223372036854775808 ≤ n ∧ n ≤ 9223372036854775807) (d : ByteArray) :
    (decide (1 ≤ c ∧ c ≤ 16) && rightB (formR c).1 (formR c).2.1 (formR c).2.2.2.1 (formR c).2.2.1 (boundsR c).1 (boundsR c).2 c p t m n d) = goodB c p t m n d := by
  have l0 : decide (-9223372036854775808 ≤ n) = true := decide_eq_true hn.1
  have l1 : decide (n ≤ 9223372036854775807) = true := decide_eq_true hn.2
  have e0 : decide (n = 0) = (decide (0 ≤ n) && decide (n ≤ 0)) := by rw [Bool.eq_iff_iff]; simp; omega
  unfold goodB chkB rightB
  rcases kinds c with rfl | rfl | rfl | rfl | rfl | rfl | rfl | rfl | rfl | rfl | rfl | rfl | rfl | rfl | rfl | rfl | h
  case inr.inr.inr.inr.inr.inr.inr.inr.inr.inr.inr.inr.inr.inr.inr.inr =>
    have hf : (formR c).2.2.2.2.2.2 = false := by
      unfold formR
      repeat rw [if_neg (by omega)]
    rw [hf, decide_eq_false (by omega)]; rfl
  all_goals
    simp only [formR, boundsR, dataB, fitsB]
    generalize looseOk p = q1
    generalize looseOk t = q2
    generalize nameB m = q3
    generalize tgt d = q4
    simp [e0, l0, l1]
  all_goals (try rw [Bool.eq_iff_iff])
  all_goals (try simp)
  all_goals (try omega)
  all_goals (intro _; simp only [and_comm, and_left_comm, and_assoc])
end Go.Proofs.YtofdpgcnconibaaGreatDoor.CmdP
/-! Commands: what is told; what is great. -/
set_option linter.unusedVariables false
set_option linter.unusedSimpArgs false
namespace Go.Proofs.YtofdpgcnconibaaGreatDoor.CmdP
open Go.RowKit Go.Proofs.YtofdpgcnconibaaGreatDoor.PA Go.Proofs.YtofdpgcnconibaaGreatDoorW.PrintWords Go.Proofs.YtofdpgcnconibaaGreatDoorW.PrintLast Go.Proofs.YtofdpgcnconibaaGreatDoorW.PrintMore
open Go.Proofs.YtofdpgcnconibaaGreatDoor.Plain
/-- Great, of one command. -/
theorem great_one (c : Int) (p t m : ByteArray) (n : Int) (d : ByteArray) (k : Nat) (hk : 2 ≤ k) :
    coppiceref19_Great.f k [⟨c, p, t, m, n, d⟩] = some true ∨ (coppiceref19_Great.f k [⟨c, p, t, m, n, d⟩] = some false ∧ p.size ≤ 1500 ∧ t.size ≤ 1500 ∧ m.size ≤ 400 ∧ d.size ≤ 400) := by
  obtain ⟨k, rfl⟩ : ∃ q, k = q + 2 := ⟨k - 2, by omega⟩
  unfold coppiceref19_Great.f
  have hl : ((([⟨c, p, t, m, n, d⟩] : List S23).length : Nat) : Int) = 1 := rfl
  have hr : rd_T23 [⟨c, p, t, m, n, d⟩] 0 = ⟨c, p, t, m, n, d⟩ := rfl
  have hw : wrap64 (0 + 1) = 1 := by unfold wrap64; omega
  rw [hl, if_neg (by decide)]
  simp only [coppiceref19_Great.l0, hl, hr, hw]
  rw [if_pos (by decide), if_pos (by decide)]
  by_cases h1 : (p.size : Int) > 1500
  · rw [if_pos h1]; exact .inl rfl
  by_cases h2 : (t.size : Int) > 1500
  · rw [if_neg h1, if_pos h2]; exact .inl rfl
  by_cases h3 : (m.size : Int) > 400
  · rw [if_neg h1, if_neg h2, if_pos h3]; exact .inl rfl
  by_cases h4 : (d.size : Int) > 400
  · rw [if_neg h1, if_neg h2, if_neg h3, if_pos h4]; exact .inl rfl
  rw [if_neg h1, if_neg h2, if_neg h3, if_neg h4, if_neg (by decide)]
  exact .inr ⟨rfl, by omega, by omega, by omega, by omega⟩
end Go.Proofs.YtofdpgcnconibaaGreatDoor.CmdP
/-! Commands: the document's records. -/
set_option linter.unusedVariables false
set_option linter.unusedSimpArgs false
namespace Go.Proofs.YtofdpgcnconibaaGreatDoor.CmdP
open Go.RowKit Go.Proofs.YtofdpgcnconibaaGreatDoor.PA Go.Proofs.YtofdpgcnconibaaGreatDoorW.PrintWords Go.Proofs.YtofdpgcnconibaaGreatDoorW.PrintLast Go.Proofs.YtofdpgcnconibaaGreatDoorW.PrintMore
open Go.Proofs.YtofdpgcnconibaaGreatDoor.Plain Go.Proofs.YtofdpgcnconibaaGreatDoor.PathP Go.Proofs.YtofdpgcnconibaaGreatDoor.TargetP Go.Proofs.YtofdpgcnconibaaGreatDoor.Ref02P
theorem rtext_f (x : ByteArray) (h : x.size ≤ 2000000000) : coppiceref02_Text.f x = some (textB x) := if_pos (by omega)
theorem renc_f (c : Int) (p t m : ByteArray) (n : Int) (d : ByteArray) (N : Nat) (hp : p.size ≤ N) (ht : t.size ≤ N) (hm : m.size ≤ N) (hd : d.size ≤ N) (hN : N ≤ 1000000) (hn : -9223372036854775808 ≤ n ∧ n ≤ 9223372036854775807) (k : Nat) (hk : 2 * N + 100 ≤ k) :
    coppiceref19_Encode.f k c p t m n d = some (encR c p t m n d) := by
  obtain ⟨k, rfl⟩ : ∃ q, k = q + 6 := ⟨k - 6, by omega⟩
  have zp := text_size p
  have zt := text_size t
  have zm := text_size m
  have zd := text_size d
  have hw : IntKind.u64.wrap n = n % 18446744073709551616 := wrap_u64 n
  have h0 : 0 ≤ n % 18446744073709551616 := Int.emod_nonneg _ (by decide)
  have h1 : n % 18446744073709551616 < 18446744073709551616 := Int.emod_lt_of_pos _ (by decide)
  have zF := fixed_size (n % 18446744073709551616)
  have zS := short_size (n % 18446744073709551616)
  have hF : ∀ k, 8 < k → coppiceref02_Fixed.f k (n % 18446744073709551616) = some (strOfNums (fixedNums (n % 18446744073709551616))) := fun k hk => refFixed k hk _ ⟨h0, h1⟩
  have hS : coppiceref02_Short.f (n % 18446744073709551616) = some (strOfNums (shortNums 9 (n % 18446744073709551616))) := if_pos ⟨h0, h1⟩
  unfold coppiceref19_Encode.f encR
  rw [right_f c p t m n d N hp ht hm hd hN _ (by omega), Option.bind_some, right_good c p t m n hn d]
  by_cases hg : goodB c p t m n d = true
  · have hc : 1 ≤ c ∧ c ≤ 16 := by
      have := right_good c p t m n hn d
      rw [hg, Bool.and_eq_true, decide_eq_true_eq] at this
      exact this.1
    rw [if_pos hg, if_pos hg, has_f c hc, Option.bind_some, Option.bind_some]
    unfold bodyR
    have z0 : (strOfNums [c % 256]).size = 1 := rfl
    generalize strOfNums [c % 256] = s0 at *
    generalize (formR c).1 = o1
    generalize (formR c).2.1 = o2
    generalize (formR c).2.2.1 = o3
    generalize (formR c).2.2.2.1 = o4
    generalize hFb : strOfNums (fixedNums (n % 18446744073709551616)) = sF at *
    generalize hSb : strOfNums (shortNums 9 (n % 18446744073709551616)) = sS at *
    have j4 : ∀ (k : Nat) (x : ByteArray), x.size ≤ 10000000 → coppiceref19_Encode.j4 (k + 1) o3 x c p t m n d = some (textB (putB x o3 (textB d)), 0) := by
      intro k x hx
      simp only [coppiceref19_Encode.j4]
      cases o3 with
      | true => rw [if_pos rfl, rtext_f d (by omega), Option.bind_some, if_pos (by omega), rtext_f _ (by rw [ByteArray.size_append]; omega), Option.bind_some]; rfl
      | false => rw [if_neg (by decide), rtext_f _ (by omega), Option.bind_some]; rfl
    have j2 : ∀ (k : Nat) (x : ByteArray), 10 ≤ k → x.size ≤ 9000000 → coppiceref19_Encode.j2 (k + 3) o4 o3 x c p t m n d = some (textB (putB (putB (putB x (o4 && (c == 15)) sF) (o4 && (c != 15)) sS) o3 (textB d)), 0) := by
      intro k x hk hx
      simp only [coppiceref19_Encode.j2, coppiceref19_Encode.j3, hw, hF (k + 1) (by omega), hS, Option.bind_some]
      cases o4 with
      | false => rw [if_neg (by decide), if_neg (by decide), if_neg (by decide), j4 k x (by omega)]; rfl
      | true =>
        rw [if_pos rfl]
        by_cases h15 : c = 15
        · have e1 : (c == 15) = true := beq_iff_eq.2 h15
          have e2 : (c != 15) = false := bne_eq_false_iff_eq.2 h15
          rw [e1, e2, if_pos rfl, if_pos (by omega), j4 k _ (by rw [ByteArray.size_append]; omega)]; rfl
        · have e1 : (c == 15) = false := beq_eq_false_iff_ne.2 h15
          have e2 : (c != 15) = true := bne_iff_ne.2 h15
          rw [e1, e2, if_neg (by decide), if_pos rfl, if_pos (by omega), j4 k _ (by rw [ByteArray.size_append]; omega)]; rfl
    have j0 : ∀ (x : ByteArray), x.size ≤ 1100000 → coppiceref19_Encode.j0 (k + 6) o1 o2 o4 o3 x c p t m n d = some (textB (putB (putB (putB (putB (putB x o1 (textB t)) o2 (textB m)) (o4 && (c == 15)) sF) (o4 && (c != 15)) sS) o3 (textB d)), 0) := by
      intro x hx
      simp only [coppiceref19_Encode.j0, coppiceref19_Encode.j1, rtext_f t (by omega), rtext_f m (by omega), Option.bind_some]
      cases o1 with
      | true =>
        rw [if_pos rfl, if_pos (by omega)]
        cases o2 with
        | true => rw [if_pos rfl, if_pos (by rw [ByteArray.size_append]; omega), j2 (k + 1) _ (by omega) (by rw [ByteArray.size_append, ByteArray.size_append]; omega)]; rfl
        | false => rw [if_neg (by decide), j2 (k + 1) _ (by omega) (by rw [ByteArray.size_append]; omega)]; rfl
      | false =>
        rw [if_neg (by decide)]
        cases o2 with
        | true => rw [if_pos rfl, if_pos (by omega), j2 (k + 1) _ (by omega) (by rw [ByteArray.size_append]; omega)]; rfl
        | false => rw [if_neg (by decide), j2 (k + 1) _ (by omega) (by omega)]; rfl
    by_cases h16 : c = 16
    · have e1 : (c != 16) = false := bne_eq_false_iff_eq.2 h16
      rw [if_pos h16, e1, j0 s0 (by omega)]; rfl
    · have e1 : (c != 16) = true := bne_iff_ne.2 h16
      rw [if_neg h16, e1, rtext_f p (by omega), Option.bind_some, if_pos (by omega), j0 _ (by rw [ByteArray.size_append]; omega)]; rfl
  · rw [if_neg hg, if_neg hg]
end Go.Proofs.YtofdpgcnconibaaGreatDoor.CmdP
