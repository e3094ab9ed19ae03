-- WRITTEN BY a program of this session (mergeset.py): several texts as one
import Derived.Test.YtofdpgcnconibaaGreatDoorPAx3
import Derived.Test.YtofdpgcnconibaaGreatDoorPAx8
import Derived.Test.YtofdpgcnconibaaGreatDoorPAx9
import Derived.Test.YtofdpgcnconibaaGreatDoorPathLp
import Derived.Test.YtofdpgcnconibaaGreatDoorTarget
import Derived.Test.YtofdpgcnconibaaGreatDoorPAx11
import Derived.Test.YtofdpgcnconibaaGreatDoorPAx12
import Derived.Test.YtofdpgcnconibaaGreatDoorPAx17
import Derived.Test.YtofdpgcnconibaaGreatDoorPAx19
import Derived.Test.YtofdpgcnconibaaGreatDoorPAx23
import Derived.Test.YtofdpgcnconibaaGreatDoorPAx24
import Derived.Test.YtofdpgcnconibaaGreatDoorPAx25
import Derived.Test.YtofdpgcnconibaaGreatDoorTargetR
import Derived.Test.YtofdpgcnconibaaGreatDoorPAx14
import Derived.Test.YtofdpgcnconibaaGreatDoorPAx16
import Derived.Test.YtofdpgcnconibaaGreatDoorPAx18
import Derived.Test.YtofdpgcnconibaaGreatDoorPAx27
import Derived.Test.YtofdpgcnconibaaGreatDoorPAx28
import Derived.Test.YtofdpgcnconibaaGreatDoorPAx29
import Derived.Test.YtofdpgcnconibaaGreatDoorPAx30
import Derived.Test.YtofdpgcnconibaaGreatDoorSim
/-! Commands: the program's forms and checks, plain. -/
set_option linter.unusedVariables false
set_option linter.unusedSimpArgs false
namespace Go.Proofs.YtofdpgcnconibaaGreatDoor.CmdP
open Go.RowKit Go.Proofs.YtofdpgcnconibaaGreatDoor.PA Go.Proofs.YtofdpgcnconibaaGreatDoorW.PrintWords Go.Proofs.YtofdpgcnconibaaGreatDoorW.PrintLast Go.Proofs.YtofdpgcnconibaaGreatDoorW.PrintMore
open Go.Proofs.YtofdpgcnconibaaGreatDoor.Plain Go.Proofs.YtofdpgcnconibaaGreatDoor.PathP Go.Proofs.YtofdpgcnconibaaGreatDoor.TargetP
/-- A kind's form: to, name, data, n, least, most; is there one? -/
def formR (c : Int) : Bool × Bool × Bool × Bool × Int × Int × Bool :=
  if c = 3 then (false, false, true, true, 2, 1099511627776, true) else
  if c = 1 ∨ c = 2 then (false, false, false, true, 2, 1099511627776, true) else
  if c = 4 ∨ c = 5 then (true, false, false, false, 0, 0, true) else
  if c = 6 ∨ c = 7 then (false, false, false, false, 0, 0, true) else
  if c = 8 then (false, false, false, true, 0, 4611686018427387904, true) else
  if c = 9 then (false, false, true, true, 0, 72057594037927935, true) else
  if c = 10 then (false, false, false, true, 1, 72057594037927935, true) else
  if c = 11 then (false, false, false, true, 0, 72057594037927935, true) else
  if c = 12 then (false, true, true, false, 0, 0, true) else
  if c = 13 then (false, true, false, false, 0, 0, true) else
  if c = 14 then (false, false, false, true, 0, 4095, true) else
  if c = 15 then (false, false, false, true, -9223372036854775808, 9223372036854775807, true) else
  if c = 16 then (false, false, false, true, 2, 1099511627777, true) else (false, false, false, false, 0, 0, false)
theorem kinds (c : Int) : c = 1 ∨ c = 2 ∨ c = 3 ∨ c = 4 ∨ c = 5 ∨ c = 6 ∨ c = 7 ∨ c = 8 ∨ c = 9 ∨ c = 10 ∨ c = 11 ∨ c = 12 ∨ c = 13 ∨ c = 14 ∨ c = 15 ∨ c = 16 ∨ (c < 1 ∨ 16 < c) := by omega
theorem of_f (c : Int) (k : Nat) (hk : 5 ≤ k) : cmd_of.f k c = some (formR c) := by
  obtain ⟨k, rfl⟩ : ∃ q, k = q + 5 := ⟨k - 5, by omega⟩
  rcases kinds c with rfl | rfl | rfl | rfl | rfl | rfl | rfl | rfl | rfl | rfl | rfl | rfl | rfl | rfl | rfl | rfl | h
  case inr.inr.inr.inr.inr.inr.inr.inr.inr.inr.inr.inr.inr.inr.inr.inr =>
    have n1 : c ≠ 1 := by omega
    have n2 : c ≠ 2 := by omega
    have n3 : c ≠ 3 := by omega
    have n4 : c ≠ 4 := by omega
    have n5 : c ≠ 5 := by omega
    have n6 : c ≠ 6 := by omega
    have n7 : c ≠ 7 := by omega
    have n8 : c ≠ 8 := by omega
    have n9 : c ≠ 9 := by omega
    have n10 : c ≠ 10 := by omega
    have n11 : c ≠ 11 := by omega
    have n12 : c ≠ 12 := by omega
    have n13 : c ≠ 13 := by omega
    have n14 : c ≠ 14 := by omega
    have n15 : c ≠ 15 := by omega
    have n16 : c ≠ 16 := by omega
    simp [cmd_of.f, cmd_of.j0, cmd_of.j1, cmd_of.j2, formR, *]
  all_goals (simp [cmd_of.f, cmd_of.j0, cmd_of.j1, cmd_of.j2, formR])
/-- A loose path. -/
def looseOk (s : ByteArray) : Bool := (looseR s).2 == 0
theorem cloose_f (s : ByteArray) (hs : s.size ≤ 1000000) (k : Nat) (hk : s.size + 10 ≤ k) : cmd_loose.f k s = some (looseOk s) := by
  unfold cmd_loose.f
  rw [ploose_f s hs k hk]; rfl
/-- Data that fit. -/
def fitsB (c : Int) (d : ByteArray) : Bool :=
  if c = 3 then tgt d else if c = 9 then decide (d.size = 64) else if c = 12 then decide (d.size ≤ 120) else decide (d.size = 0)
theorem fits_f (c : Int) (p t m : ByteArray) (n : Int) (d : ByteArray) : cmd_fits.f c p t m n d = some (fitsB c d) := by
  unfold cmd_fits.f fitsB
  by_cases h3 : c = 3
  · rw [if_pos h3, if_pos h3, target_ok]; rfl
  · rw [if_neg h3, if_neg h3]
    by_cases h9 : c = 9
    · rw [if_pos h9, if_pos h9]; congr 1; rw [Bool.eq_iff_iff]; simp; omega
    · rw [if_neg h9, if_neg h9]
      by_cases h12 : c = 12
      · rw [if_pos h12, if_pos h12]; congr 1; rw [Bool.eq_iff_iff]; simp; omega
      · rw [if_neg h12, if_neg h12]
        congr 1
        rw [Bool.eq_iff_iff, beq_iff_eq, decide_eq_true_iff]
        exact nil_iff d
/-- A command of a form. -/
def chkB (o : Bool × Bool × Bool × Bool × Int × Int × Bool) (c : Int) (p t m : ByteArray) (n : Int) (d : ByteArray) : Bool :=
  o.2.2.2.2.2.2 && ((if c = 16 then decide (p.size = 0) else looseOk p) && (fitsB c d && ((if o.1 = true then looseOk t else decide (t.size = 0)) &&
    ((if o.2.1 = true then nameB m else decide (m.size = 0)) && (decide (o.2.2.2.2.1 ≤ n) && decide (n ≤ o.2.2.2.2.2.1))))))
def goodB (c : Int) (p t m : ByteArray) (n : Int) (d : ByteArray) : Bool := chkB (formR c) c p t m n d
theorem nil_beq (s : ByteArray) : (s.toList == ([] : List UInt8)) = decide (s.size = 0) := by
  rw [Bool.eq_iff_iff, beq_iff_eq, decide_eq_true_iff]; exact nil_iff s
theorem nil_bne (s : ByteArray) : (s.toList != ([] : List UInt8)) = !decide (s.size = 0) := by
  show (!(s.toList == ([] : List UInt8))) = _
  rw [nil_beq]
theorem check_f (c : Int) (p t m : ByteArray) (n : Int) (d : ByteArray) (N : Nat) (hp : p.size ≤ N) (ht : t.size ≤ N) (hN : N ≤ 1000000) (k : Nat) (hk : N + 30 ≤ k) :
    cmd_check.f k c p t m n d = some (if goodB c p t m n d = true then none else some 190) := by
  obtain ⟨k, rfl⟩ : ∃ q, k = q + 8 := ⟨k - 8, by omega⟩
  unfold cmd_check.f goodB chkB
  rw [of_f c _ (by omega), Option.bind_some, nil_beq]
  obtain ⟨o1, o2, o3, o4, o5, o6, o7⟩ := formR c
  have key : ∀ b : Bool, cmd_check.j0 (k + 8) o7 b c p t m n d o1 o2 o3 o4 o5 o6 = some (if (o7 && (b && (fitsB c d && ((if o1 = true then looseOk t else decide (t.size = 0)) &&
      ((if o2 = true then nameB m else decide (m.size = 0)) && (decide (o5 ≤ n) && decide (n ≤ o6))))))) = true then none else some 190) := by
    intro b
    simp only [cmd_check.j0, cmd_check.j1, cmd_check.j2, cmd_check.j3, cmd_check.j4, cmd_check.j5, fits_f, cloose_f t (by omega) (k + 6) (by omega), name_f, Option.bind_some, nil_bne]
    rcases Int.lt_or_le n o5 with hn | hn
    · have e1 : decide (o5 ≤ n) = false := decide_eq_false (by omega)
      rw [e1, if_pos hn]
      cases o7 <;> cases b <;> cases fitsB c d <;> cases o1 <;> cases o2 <;> cases looseOk t <;> cases decide (t.size = 0) <;> cases nameB m <;> cases decide (m.size = 0) <;> rfl
    · have e1 : decide (o5 ≤ n) = true := decide_eq_true hn
      rw [e1, if_neg (by omega : ¬ n < o5)]
      rcases Int.lt_or_le o6 n with hm | hm
      · have e2 : decide (n ≤ o6) = false := decide_eq_false (by omega)
        rw [e2, if_pos (by omega : n > o6)]
        cases o7 <;> cases b <;> cases fitsB c d <;> cases o1 <;> cases o2 <;> cases looseOk t <;> cases decide (t.size = 0) <;> cases nameB m <;> cases decide (m.size = 0) <;> rfl
      · have e2 : decide (n ≤ o6) = true := decide_eq_true hm
        rw [e2, if_neg (by omega : ¬ n > o6)]
        cases o7 <;> cases b <;> cases fitsB c d <;> cases o1 <;> cases o2 <;> cases looseOk t <;> cases decide (t.size = 0) <;> cases nameB m <;> cases decide (m.size = 0) <;> rfl
  by_cases h16 : c = 16
  · rw [if_pos h16, key, if_pos h16]
  · rw [if_neg h16, cloose_f p (by omega) _ (by omega), Option.bind_some, key, if_neg h16]
end Go.Proofs.YtofdpgcnconibaaGreatDoor.CmdP
/-! Commands: the program's records. -/
set_option linter.unusedVariables false
set_option linter.unusedSimpArgs false
namespace Go.Proofs.YtofdpgcnconibaaGreatDoor.CmdP
open Go.RowKit Go.Proofs.YtofdpgcnconibaaGreatDoor.PA Go.Proofs.YtofdpgcnconibaaGreatDoorW.PrintWords Go.Proofs.YtofdpgcnconibaaGreatDoorW.PrintLast Go.Proofs.YtofdpgcnconibaaGreatDoorW.PrintMore
open Go.Proofs.YtofdpgcnconibaaGreatDoor.Plain Go.Proofs.YtofdpgcnconibaaGreatDoor.PathP Go.Proofs.YtofdpgcnconibaaGreatDoor.TargetP
/-- A record's bytes behind their length. -/
def bodyR (c : Int) (p t m : ByteArray) (n : Int) (d : ByteArray) : ByteArray :=
  putB (putB (putB (putB (putB (putB (strOfNums [c % 256]) (c != 16) (textB p)) (formR c).1 (textB t)) (formR c).2.1 (textB m)) ((formR c).2.2.2.1 && (c == 15)) (strOfNums (fixedNums (n % 18446744073709551616)))) ((formR c).2.2.2.1 && (c != 15)) (strOfNums (shortNums 9 (n % 18446744073709551616)))) (formR c).2.2.1 (textB d)
/-- A record, or the error. -/
def encR (c : Int) (p t m : ByteArray) (n : Int) (d : ByteArray) : ByteArray × Int := if goodB c p t m n d = true then (textB (bodyR c p t m n d), 0) else (⟨#[]⟩, 190)
theorem enc_f (c : Int) (p t m : ByteArray) (n : Int) (d : ByteArray) (N : Nat) (hp : p.size ≤ N) (ht : t.size ≤ N) (hm : m.size ≤ N) (hd : d.size ≤ N) (hN : N ≤ 1000000) (k : Nat) (hk : N + 30 ≤ k) :
    cmd_encode.f k c p t m n d = some ((encR c p t m n d).1, if goodB c p t m n d = true then none else some 190) := by
  unfold cmd_encode.f encR
  rw [check_f c p t m n d N hp ht hN k hk, Option.bind_some]
  by_cases h : goodB c p t m n d = true
  · rw [if_pos h, if_pos h]
    show (cmd_of.f k c).bind _ = _
    rw [of_f c k (by omega), Option.bind_some, if_pos (by omega)]
    rfl
  · rw [if_neg h, if_neg h]
theorem tell_none : api_Tell.f none = some (0, 0, 0) := rfl
theorem tell_some (e : Int) : api_Tell.f (some e) = some (e, 0, -1) := rfl
/-- What is told of an error number of no record. -/
def toldR (e : Int) : Int × Int × Int := if e = 0 then (0, 0, 0) else (e, 0, -1)
theorem Enc_f (c : Int) (p t m : ByteArray) (n : Int) (d : ByteArray) (N : Nat) (hp : p.size ≤ N) (ht : t.size ≤ N) (hm : m.size ≤ N) (hd : d.size ≤ N) (hN : N ≤ 1000000) (k : Nat) (hk : N + 30 ≤ k) :
    cmd_Encode.f k c p t m n d = some ((encR c p t m n d).1, toldR (encR c p t m n d).2) := by
  unfold cmd_Encode.f
  rw [enc_f c p t m n d N hp ht hm hd hN k hk, Option.bind_some]
  unfold encR toldR
  by_cases h : goodB c p t m n d = true
  · rw [if_pos h, if_pos h, tell_none]; rfl
  · rw [if_neg h, if_neg h, tell_some]; rfl
theorem awake19 (k : Nat) (hk : 100 ≤ k) : coppicelaw19_awake.f k = some true := by
  unfold coppicelaw19_awake.f
  have z0 : (⟨#[]⟩ : ByteArray).size = 0 := rfl
  have z2 : (⟨#[47, 97]⟩ : ByteArray).size = 2 := rfl
  rw [Enc_f _ _ _ _ _ _ 2 (by omega) (by omega) (by omega) (by omega) (by omega) k (by omega), Option.bind_some, Enc_f _ _ _ _ _ _ 2 (by omega) (by omega) (by omega) (by omega) (by omega) k (by omega), Option.bind_some]
  have hl : looseOk (⟨#[47, 97]⟩ : ByteArray) = true := by
    have hn : nameB (⟨#[97]⟩ : ByteArray) = true := by
      unfold nameB nameOk
      rw [ByteArray.toList_eq]
      decide +kernel
    unfold looseOk looseR pathNames
    have hc : cutS (ofL (⟨#[47, 97]⟩ : ByteArray).data.toList.tail) = [⟨#[97]⟩] := by decide +kernel
    rw [if_neg (by decide), if_pos (by decide), hc, if_pos ⟨by decide, by
      simp only [List.head?_cons, Option.any_some]
      unfold looseB
      rw [hn, Bool.or_true], by rfl⟩]
    rfl
  have h1 : goodB 6 (⟨#[47, 97]⟩ : ByteArray) ⟨#[]⟩ ⟨#[]⟩ 0 ⟨#[]⟩ = true := by
    unfold goodB chkB
    rw [hl]
    decide +kernel
  have h2 : goodB 0 (⟨#[]⟩ : ByteArray) ⟨#[]⟩ ⟨#[]⟩ 0 ⟨#[]⟩ = false := by
    unfold goodB chkB formR
    simp
  unfold encR
  rw [if_pos h1, if_neg (Bool.eq_false_iff.1 h2)]
  have hb : (textB (bodyR 6 (⟨#[47, 97]⟩ : ByteArray) ⟨#[]⟩ ⟨#[]⟩ 0 ⟨#[]⟩)).toList = [4, 6, 2, 47, 97] := by
    rw [ByteArray.toList_eq]; decide +kernel
  rw [hb]
  decide +kernel
end Go.Proofs.YtofdpgcnconibaaGreatDoor.CmdP
/-! Commands: what is told behind a decode. -/
set_option linter.unusedVariables false
namespace Go.Proofs.YtofdpgcnconibaaGreatDoor.CmdP
open Go.RowKit Go.Proofs.YtofdpgcnconibaaGreatDoor.PA Go.Proofs.YtofdpgcnconibaaGreatDoorW.PrintWords Go.Proofs.YtofdpgcnconibaaGreatDoorW.PrintLast Go.Proofs.YtofdpgcnconibaaGreatDoorW.PrintMore
open Go.Proofs.YtofdpgcnconibaaGreatDoor.Plain
theorem wrap_range (x : Int) : -9223372036854775808 ≤ wrap64 x ∧ wrap64 x ≤ 9223372036854775807 := by unfold wrap64; omega
/-- What is told of an error's number. -/
def errO (code : Int) : Option Int := if code = 0 then none else some code
theorem Dec_f (s : ByteArray) (k : Nat) (c : Int) (p t m : ByteArray) (n : Int) (d : ByteArray) (len code : Int) (h : cmd_decode.f k s = some (c, p, t, m, n, d, len, errO code)) :
    cmd_Decode.f k s = some (c, p, t, m, n, d, len, toldR code) := by
  unfold cmd_Decode.f
  rw [h, Option.bind_some]
  unfold errO toldR
  by_cases h0 : code = 0
  · rw [if_pos h0, if_pos h0, tell_none]; rfl
  · rw [if_neg h0, if_neg h0, tell_some]; rfl
end Go.Proofs.YtofdpgcnconibaaGreatDoor.CmdP
/-! Commands: the document's Right. -/
set_option linter.unusedVariables false
set_option linter.unusedSimpArgs false
namespace Go.Proofs.YtofdpgcnconibaaGreatDoor.CmdP
open Go.RowKit Go.Proofs.YtofdpgcnconibaaGreatDoor.PA Go.Proofs.YtofdpgcnconibaaGreatDoorW.PrintWords Go.Proofs.YtofdpgcnconibaaGreatDoorW.PrintLast Go.Proofs.YtofdpgcnconibaaGreatDoorW.PrintMore
open Go.Proofs.YtofdpgcnconibaaGreatDoor.Plain Go.Proofs.YtofdpgcnconibaaGreatDoor.PathP Go.Proofs.YtofdpgcnconibaaGreatDoor.TargetP
theorem has_f (c : Int) (hc : 1 ≤ c ∧ c ≤ 16) : coppiceref19_Has.f c = some ((formR c).1, (formR c).2.1, (formR c).2.2.2.1, (formR c).2.2.1) := by
  rcases kinds c with rfl | rfl | rfl | rfl | rfl | rfl | rfl | rfl | rfl | rfl | rfl | rfl | rfl | rfl | rfl | rfl | h
  case inr.inr.inr.inr.inr.inr.inr.inr.inr.inr.inr.inr.inr.inr.inr.inr => omega
  all_goals (simp [coppiceref19_Has.f, formR])
/-- The bounds of N, where a kind has one; all numbers where it hasn't. -/
def boundsR (c : Int) : Int × Int := if (formR c).2.2.2.1 = true then ((formR c).2.2.2.2.1, (formR c).2.2.2.2.2.1) else (-9223372036854775808, 9223372036854775807)
theorem bounds_f (c : Int) (hc : 1 ≤ c ∧ c ≤ 16) (k : Nat) (hk : 3 ≤ k) : coppiceref19_bounds.f k c = some (boundsR c) := by
  obtain ⟨k, rfl⟩ : ∃ q, k = q + 3 := ⟨k - 3, by omega⟩
  rcases kinds c with rfl | rfl | rfl | rfl | rfl | rfl | rfl | rfl | rfl | rfl | rfl | rfl | rfl | rfl | rfl | rfl | h
  case inr.inr.inr.inr.inr.inr.inr.inr.inr.inr.inr.inr.inr.inr.inr.inr => omega
  all_goals (simp [coppiceref19_bounds.f, coppiceref19_bounds.j0, coppiceref19_bounds.j1, boundsR, formR])
theorem rrloose_f (s : ByteArray) (hs : s.size ≤ 1000000) (k : Nat) (hk : 2 * s.size + 50 ≤ k) : coppiceref19_loose.f k s = some (looseOk s) := by
  unfold coppiceref19_loose.f
  rw [rloose_f s hs k hk]; rfl
/-- The document's word for data. -/
def dataB (c : Int) (d : ByteArray) : Bool := (c != 3 || tgt d) && ((c != 9 || decide (d.size = 64)) && (c != 12 || decide (d.size ≤ 120)))
/-- The document's command, of a form. -/
def rightB (o1 o2 o3 o4 : Bool) (b1 b2 : Int) (c : Int) (p t m : ByteArray) (n : Int) (d : ByteArray) : Bool :=
  (if c = 16 then decide (p.size = 0) else looseOk p) && ((if o1 = true then looseOk t else decide (t.size = 0)) && ((if o2 = true then nameB m else decide (m.size = 0)) &&
    ((o3 || decide (n = 0)) && ((o4 || decide (d.size = 0)) && ((!o3 || (decide (b1 ≤ n) && decide (n ≤ b2))) && dataB c d)))))
theorem right_j2 (k : Nat) (o3 x : Bool) (c : Int) (hc : 1 ≤ c ∧ c ≤ 16) (p t m : ByteArray) (n : Int) (d : ByteArray) (hd : d.size < k) (hd2 : d.size ≤ 1000000) (hk : 5 ≤ k) :
    coppiceref19_Right.j2 (k + 1) o3 x c p t m n d = some (!x && ((!o3 || (decide ((boundsR c).1 ≤ n) && decide (n ≤ (boundsR c).2))) && dataB c d)) := by
  simp only [coppiceref19_Right.j2, bounds_f c hc k (by omega), rtarget_ok d (by omega) k hd, Option.bind_some]
  have key : (if c = 3 then (if tgt d = true then (if c = 9 then (if (d.size : Int) = 64 then (if c = 12 then some (!(decide ((d.size : Int) > 120))) else some (!false)) else some (!true)) else if c = 12 then some (!(decide ((d.size : Int) > 120))) else some (!false)) else some (!true))
      else if c = 9 then (if (d.size : Int) = 64 then (if c = 12 then some (!(decide ((d.size : Int) > 120))) else some (!false)) else some (!true)) else if c = 12 then some (!(decide ((d.size : Int) > 120))) else some (!false)) = some (dataB c d) := by
    have e64 : ((d.size : Int) = 64) = (d.size = 64) := propext (by omega)
    have e120 : decide ((d.size : Int) > 120) = !decide (d.size ≤ 120) := by rw [Bool.eq_iff_iff]; simp; omega
    rw [e120]
    simp only [e64]
    unfold dataB
    by_cases h3 : c = 3
    · subst h3; simp; cases tgt d <;> simp
    · by_cases h9 : c = 9
      · subst h9; simp; by_cases h : d.size = 64 <;> simp [h]
      · by_cases h12 : c = 12
        · subst h12; simp
        · have e3 : (c != 3) = true := by simp [h3]
          have e9 : (c != 9) = true := by simp [h9]
          have e12 : (c != 12) = true := by simp [h12]
          rw [e3, e9, e12]; simp [h3, h9, h12]
  rw [key]
  cases x with
  | true => rfl
  | false =>
    cases o3 with
    | false => simp
    | true =>
      rcases Int.lt_or_le n (boundsR c).1 with h1 | h1
      · simp [h1, Int.not_le.2 h1]
      · rcases Int.lt_or_le (boundsR c).2 n with h2 | h2
        · simp [h1, Int.not_lt.2 h1, h2, Int.not_le.2 h2]
        · simp [h1, Int.not_lt.2 h1, h2, Int.not_lt.2 h2]
theorem right_j1 (k : Nat) (o2 o3 o4 x : Bool) (c : Int) (hc : 1 ≤ c ∧ c ≤ 16) (p t m : ByteArray) (n : Int) (d : ByteArray) (hm : m.size + 10 ≤ k) (hm2 : m.size ≤ 1000000) (hd : d.size + 10 ≤ k) (hd2 : d.size ≤ 1000000) :
    coppiceref19_Right.j1 (k + 1) o2 o3 o4 x c p t m n d = some (!x && ((if o2 = true then nameB m else decide (m.size = 0)) &&
      ((o3 || decide (n = 0)) && ((o4 || decide (d.size = 0)) && ((!o3 || (decide ((boundsR c).1 ≤ n) && decide (n ≤ (boundsR c).2))) && dataB c d))))) := by
  obtain ⟨k, rfl⟩ : ∃ q, k = q + 1 := ⟨k - 1, by omega⟩
  simp only [coppiceref19_Right.j1, rname_f m hm2 (k + 1) (by omega), Option.bind_some, nil_bne, right_j2 k _ _ c hc p t m n d (by omega) hd2 (by omega)]
  have em : (m.toList = ([] : List UInt8)) = (m.size = 0) := propext (nil_iff m)
  simp only [em]
  generalize ((!o3 || (decide ((boundsR c).1 ≤ n) && decide (n ≤ (boundsR c).2))) && dataB c d) = z
  by_cases hn : n = 0 <;> by_cases hz : m.size = 0 <;> simp only [hn, hz] <;> cases x <;> cases o2 <;> cases o3 <;> cases o4 <;> cases nameB m <;> simp
theorem right_f (c : Int) (p t m : ByteArray) (n : Int) (d : ByteArray) (N : Nat) (hp : p.size ≤ N) (ht : t.size ≤ N) (hm : m.size ≤ N) (hd : d.size ≤ N) (hN : N ≤ 1000000) (k : Nat) (hk : 2 * N + 60 ≤ k) :
    coppiceref19_Right.f k c p t m n d = some (decide (1 ≤ c ∧ c ≤ 16) && rightB (formR c).1 (formR c).2.1 (formR c).2.2.2.1 (formR c).2.2.1 (boundsR c).1 (boundsR c).2 c p t m n d) := by
  obtain ⟨k, rfl⟩ : ∃ q, k = q + 3 := ⟨k - 3, by omega⟩
  unfold coppiceref19_Right.f
  by_cases hc : 1 ≤ c ∧ c ≤ 16
  · rw [if_neg (by omega), decide_eq_false (by omega), decide_eq_true hc, Bool.true_and]
    have et : (t.toList != ([] : List UInt8)) = !decide (t.size = 0) := nil_bne t
    have ep : (p.toList = ([] : List UInt8)) = (p.size = 0) := propext (nil_iff p)
    simp only [coppiceref19_Right.j0, has_f c hc, rrloose_f p (by omega) (k + 2) (by omega), rrloose_f t (by omega) (k + 2) (by omega), Option.bind_some, et, ep, right_j1 (k + 1) _ _ _ _ c hc p t m n d (by omega) (by omega) (by omega) (by omega)]
    unfold rightB
    generalize ((if (formR c).2.1 = true then nameB m else decide (m.size = 0)) && ((((formR c).2.2.2.1 || decide (n = 0)) && (((formR c).2.2.1 || decide (d.size = 0)) && ((!(formR c).2.2.2.1 || (decide ((boundsR c).1 ≤ n) && decide (n ≤ (boundsR c).2))) && dataB c d))))) = z
    generalize (formR c).1 = o1
    generalize decide (t.size = 0) = q1
    generalize looseOk t = q2
    generalize looseOk p = q3
    by_cases h16 : c = 16 <;> by_cases hz : p.size = 0 <;> simp only [h16, hz, if_true, if_false, decide_true, decide_false] <;> cases o1 <;> cases q1 <;> cases q2 <;> cases q3 <;> simp
  · rw [decide_eq_false hc, Bool.false_and]
    by_cases h : c < 1
    · rw [if_pos h]; rfl
    · rw [if_neg h, decide_eq_true (by omega)]; rfl
/-- The document's word is the program's. -/
theorem right_good (c : Int) (p t m : ByteArray) (n : Int) (hn : -9223372036854775808 ≤ n ∧ n ≤ 9223372036854775807) (d : ByteArray) :
    (decide (1 ≤ c ∧ c ≤ 16) && rightB (formR c).1 (formR c).2.1 (formR c).2.2.2.1 (formR c).2.2.1 (boundsR c).1 (boundsR c).2 c p t m n d) = goodB c p t m n d := by
  have l0 : decide (-9223372036854775808 ≤ n) = true := decide_eq_true hn.1
  have l1 : decide (n ≤ 9223372036854775807) = true := decide_eq_true hn.2
  have e0 : decide (n = 0) = (decide (0 ≤ n) && decide (n ≤ 0)) := by rw [Bool.eq_iff_iff]; simp; omega
  unfold goodB chkB rightB
  rcases kinds c with rfl | rfl | rfl | rfl | rfl | rfl | rfl | rfl | rfl | rfl | rfl | rfl | rfl | rfl | rfl | rfl | h
  case inr.inr.inr.inr.inr.inr.inr.inr.inr.inr.inr.inr.inr.inr.inr.inr =>
    have hf : (formR c).2.2.2.2.2.2 = false := by
      unfold formR
      repeat rw [if_neg (by omega)]
    rw [hf, decide_eq_false (by omega)]; rfl
  all_goals
    simp only [formR, boundsR, dataB, fitsB]
    generalize looseOk p = q1
    generalize looseOk t = q2
    generalize nameB m = q3
    generalize tgt d = q4
    simp [e0, l0, l1]
  all_goals (try rw [Bool.eq_iff_iff])
  all_goals (try simp)
  all_goals (try omega)
  all_goals (intro _; simp only [and_comm, and_left_comm, and_assoc])
end Go.Proofs.YtofdpgcnconibaaGreatDoor.CmdP
/-! Commands: what the document decodes is what the program decodes. -/
set_option linter.unusedVariables false
set_option linter.unusedSimpArgs false
namespace Go.Proofs.YtofdpgcnconibaaGreatDoor.CmdP
open Go.RowKit Go.Proofs.YtofdpgcnconibaaGreatDoor.PA Go.Proofs.YtofdpgcnconibaaGreatDoorW.PrintWords Go.Proofs.YtofdpgcnconibaaGreatDoorW.PrintLast Go.Proofs.YtofdpgcnconibaaGreatDoorW.PrintMore
open Go.Proofs.YtofdpgcnconibaaGreatDoor.Plain Go.Proofs.YtofdpgcnconibaaGreatDoor.PathP Go.Proofs.YtofdpgcnconibaaGreatDoor.TargetP Go.Proofs.YtofdpgcnconibaaGreatDoor.PackP Go.Proofs.YtofdpgcnconibaaGreatDoor.SimP
theorem rT_both (has : Bool) (s : ByteArray) (a e : Int) (R : ByteArray) (h : Sim s a R) (h2 : s.size ≤ 4611686018427387904) (k : Nat) (hk : 20 ≤ k) :
    ∃ v a' e' R', rdT k has s a e = some (v, s, a', e') ∧ rrT k has R e = some (v, R', e') ∧ Sim s a' R' ∧ v.size ≤ 2000 := by
  cases has with
  | true =>
    obtain ⟨v, a', e', R', g1, g2, g3, g4, -⟩ := text_both s a e R h h2 k hk 2000 ⟨by omega, by omega⟩
    exact ⟨v, a', e', R', g1, g2, g3, by omega⟩
  | false => exact ⟨⟨#[]⟩, a, e, R, rfl, rfl, h, Nat.zero_le _⟩
theorem rN_both (fx sh : Bool) (s : ByteArray) (a e : Int) (R : ByteArray) (h : Sim s a R) (h2 : s.size ≤ 4611686018427387904) (k : Nat) (hk : 20 ≤ k) :
    ∃ x a' e' R', rdN k fx sh s a e = some (wrap64 x, s, a', e') ∧ rrN k fx sh R e = some (x, R', e') ∧ Sim s a' R' ∧ (0 ≤ x ∧ x < 18446744073709551616) := by
  cases fx with
  | true =>
    obtain ⟨x, a', e', R', g1, g2, g3, g4, -⟩ := fixed_both s a e R h h2 k (by omega)
    refine ⟨x, a', e', R', ?_, g2, g3, g4⟩
    unfold rdN; rw [if_pos rfl, g1]; rfl
  | false =>
    cases sh with
    | true =>
      obtain ⟨x, a', e', R', g1, g2, g3, g4, -⟩ := short_both s a e R h h2 k hk
      refine ⟨x, a', e', R', ?_, g2, g3, g4⟩
      unfold rdN; rw [if_neg (by decide), if_pos rfl, g1]; rfl
    | false =>
      refine ⟨0, a, e, R, ?_, rfl, h, by omega⟩
      unfold rdN; rw [if_neg (by decide), if_neg (by decide)]
      have : wrap64 0 = 0 := by unfold wrap64; omega
      rw [this]
/-- A number that is too great is no command's. -/
theorem big_bad (b : Int) (hb : 1 ≤ b ∧ b ≤ 16) (h15 : b ≠ 15) (hN : (formR b).2.2.2.1 = true) (x : Int) (hx : x > 4611686018427387904) (hx2 : x < 18446744073709551616) (p t m d : ByteArray) : goodB b p t m (wrap64 x) d = false := by
  have hw : wrap64 x > 4611686018427387904 ∨ wrap64 x < 0 := by unfold wrap64; omega
  generalize wrap64 x = y at *
  cases hg : goodB b p t m y d with
  | false => rfl
  | true =>
    exfalso
    unfold goodB chkB at hg
    simp only [Bool.and_eq_true, decide_eq_true_eq] at hg
    obtain ⟨-, -, -, -, -, h6, h7⟩ := hg
    revert hN h6 h7
    rcases kinds b with rfl | rfl | rfl | rfl | rfl | rfl | rfl | rfl | rfl | rfl | rfl | rfl | rfl | rfl | rfl | rfl | h
    case inr.inr.inr.inr.inr.inr.inr.inr.inr.inr.inr.inr.inr.inr.inr.inr => omega
    all_goals (simp only [formR]; simp; try omega)
theorem is_form (b : Int) : (formR b).2.2.2.2.2.2 = true ↔ 1 ≤ b ∧ b ≤ 16 := by
  rcases kinds b with rfl | rfl | rfl | rfl | rfl | rfl | rfl | rfl | rfl | rfl | rfl | rfl | rfl | rfl | rfl | rfl | h
  case inr.inr.inr.inr.inr.inr.inr.inr.inr.inr.inr.inr.inr.inr.inr.inr =>
    have : (formR b).2.2.2.2.2.2 = false := by
      unfold formR
      repeat rw [if_neg (by omega)]
    rw [this]
    constructor
    · intro h; cases h
    · intro h; omega
  all_goals simp [formR]
theorem has_some (b : Int) : ∃ r, coppiceref19_Has.f b = some r := by
  unfold coppiceref19_Has.f
  repeat' split
  all_goals exact ⟨_, rfl⟩
/-- The rest of a record: the document's command is the program's. -/
theorem body_both (T : ByteArray) (hT : T.size ≤ 1000000) (k : Nat) (hk : 2000100 ≤ k) (L : Int) :
    ∃ c p t m n d code, ((pack_Reader_Byte.f T 0 0).bind fun q2 =>
    if 0 ≤ q2.1 ∧ q2.1 < 256 then
      (cmd_of.f k q2.1).bind fun o =>
      if o.2.2.2.2.2.2 = true then
        (rdT k (q2.1 != 16) q2.2.1 q2.2.2.1 q2.2.2.2).bind fun q3 =>
        (rdT k o.1 q3.2.1 q3.2.2.1 q3.2.2.2).bind fun q4 =>
        (rdT k o.2.1 q4.2.1 q4.2.2.1 q4.2.2.2).bind fun q5 =>
        (rdN k (o.2.2.2.1 && (q2.1 == 15)) o.2.2.2.1 q5.2.1 q5.2.2.1 q5.2.2.2).bind fun q6 =>
        (rdT k o.2.2.1 q6.2.1 q6.2.2.1 q6.2.2.2).bind fun q7 =>
        (pack_Reader_End.f q7.2.1 q7.2.2.1 q7.2.2.2).bind fun q8 =>
        if q8.1 = 0 then
          (cmd_check.f k q2.1 q3.1 q4.1 q5.1 q6.1 q7.1).bind fun r => match r with
            | some _ => some (noCmd 190)
            | none => some (q2.1, q3.1, q4.1, q5.1, q6.1, q7.1, L, none)
        else some (noCmd 190)
      else some (noCmd 190)
    else none) = some (c, p, t, m, n, d, (if code = 0 then L else 0), errO code) ∧ coppiceref19_body.f k T = some (c, p, t, m, n, d, code) ∧ ((code = 0) ∨ (code = 190 ∧ c = 0 ∧ p = ⟨#[]⟩ ∧ t = ⟨#[]⟩ ∧ m = ⟨#[]⟩ ∧ n = 0 ∧ d = ⟨#[]⟩)) := by
  have bad : ∃ c p t m n d code, some (noCmd 190) = some (c, p, t, m, n, d, (if code = 0 then L else 0), errO code) ∧ some (noRec 190) = some (c, p, t, m, n, d, code) ∧ ((code = 0) ∨ (code = 190 ∧ c = 0 ∧ p = ⟨#[]⟩ ∧ t = ⟨#[]⟩ ∧ m = ⟨#[]⟩ ∧ n = 0 ∧ d = ⟨#[]⟩)) :=
    ⟨0, ⟨#[]⟩, ⟨#[]⟩, ⟨#[]⟩, 0, ⟨#[]⟩, 190, rfl, rfl, .inr ⟨rfl, rfl, rfl, rfl, rfl, rfl, rfl⟩⟩
  obtain ⟨b, a2, e2, R2, hb, hq, i2, hb01, -⟩ := byte_both T 0 0 T (Sim.start T) (by omega)
  rw [hb, Option.bind_some]
  unfold coppiceref19_body.f
  rw [hq, Option.bind_some]
  dsimp only
  rw [if_pos hb01, if_pos hb01, of_f b k (by omega), Option.bind_some]
  by_cases hc : 1 ≤ b ∧ b ≤ 16
  · have his := (is_form b).2 hc
    rw [if_pos his, has_f b hc, Option.bind_some]
    dsimp only
    obtain ⟨p, a3, e3, R3, hp, hp', i3, zp⟩ := rT_both (b != 16) T a2 e2 R2 i2 (by omega) k (by omega)
    rw [hp, Option.bind_some, hp', Option.bind_some]
    dsimp only
    obtain ⟨t, a4, e4, R4, ht, ht', i4, zt⟩ := rT_both (formR b).1 T a3 e3 R3 i3 (by omega) k (by omega)
    rw [ht, Option.bind_some, ht', Option.bind_some]
    dsimp only
    obtain ⟨m, a5, e5, R5, hm, hm', i5, zm⟩ := rT_both (formR b).2.1 T a4 e4 R4 i4 (by omega) k (by omega)
    rw [hm, Option.bind_some, hm', Option.bind_some]
    dsimp only
    obtain ⟨x, a6, e6, R6, hn, hn', i6, hx⟩ := rN_both ((formR b).2.2.2.1 && (b == 15)) (formR b).2.2.2.1 T a5 e5 R5 i5 (by omega) k (by omega)
    rw [hn, Option.bind_some, hn', Option.bind_some]
    dsimp only
    obtain ⟨d, a7, e7, R7, hd, hd', i7, zd⟩ := rT_both (formR b).2.2.1 T a6 e6 R6 i6 (by omega) k (by omega)
    rw [hd, Option.bind_some]
    dsimp only
    obtain ⟨v, hv, hv', -⟩ := end_both T a7 e7 R7 i7 (by omega)
    rw [hv, Option.bind_some]
    dsimp only
    have hch := check_f b p t m (wrap64 x) d 2000 zp zt (by omega) k (by omega)
    by_cases hearly : ((formR b).2.2.2.1 && (b != 15)) = true ∧ x > 4611686018427387904
    · rw [if_pos hearly]
      obtain ⟨he1, he2⟩ := hearly
      rw [Bool.and_eq_true] at he1
      have hg := big_bad b hc (by simpa using he1.2) he1.1 x he2 hx.2 p t m d
      have hch' : cmd_check.f k b p t m (wrap64 x) d = some (some 190) := by rw [hch, hg]; rfl
      by_cases h8 : v = 0
      · rw [if_pos h8, hch', Option.bind_some]; exact bad
      · rw [if_neg h8]; exact bad
    · rw [if_neg hearly, hd', Option.bind_some]
      dsimp only
      rw [hv', Option.bind_some]
      dsimp only
      by_cases h8 : v = 0
      · rw [if_pos h8, if_pos h8, hch, Option.bind_some, right_f b p t m (wrap64 x) d 2000 zp zt zm zd (by omega) k (by omega), Option.bind_some, right_good b p t m (wrap64 x) (wrap_range x) d]
        by_cases hg : goodB b p t m (wrap64 x) d = true
        · rw [if_pos hg, if_pos hg]
          exact ⟨b, p, t, m, wrap64 x, d, 0, rfl, rfl, .inl rfl⟩
        · rw [if_neg hg, if_neg hg]; exact bad
      · rw [if_neg h8, if_neg h8]; exact bad
  · have his : ¬ (formR b).2.2.2.2.2.2 = true := fun h => hc ((is_form b).1 h)
    rw [if_neg his]
    obtain ⟨⟨o1, o2, o4, o3⟩, ho⟩ := has_some b
    rw [ho, Option.bind_some]
    dsimp only
    obtain ⟨p, a3, e3, R3, -, hp', i3, zp⟩ := rT_both (b != 16) T a2 e2 R2 i2 (by omega) k (by omega)
    rw [hp', Option.bind_some]
    dsimp only
    obtain ⟨t, a4, e4, R4, -, ht', i4, zt⟩ := rT_both o1 T a3 e3 R3 i3 (by omega) k (by omega)
    rw [ht', Option.bind_some]
    dsimp only
    obtain ⟨m, a5, e5, R5, -, hm', i5, zm⟩ := rT_both o2 T a4 e4 R4 i4 (by omega) k (by omega)
    rw [hm', Option.bind_some]
    dsimp only
    obtain ⟨x, a6, e6, R6, -, hn', i6, hx⟩ := rN_both (o4 && (b == 15)) o4 T a5 e5 R5 i5 (by omega) k (by omega)
    rw [hn', Option.bind_some]
    dsimp only
    obtain ⟨d, a7, e7, R7, -, hd', i7, zd⟩ := rT_both o3 T a6 e6 R6 i6 (by omega) k (by omega)
    by_cases hearly : (o4 && (b != 15)) = true ∧ x > 4611686018427387904
    · rw [if_pos hearly]; exact bad
    · rw [if_neg hearly, hd', Option.bind_some]
      dsimp only
      obtain ⟨v, -, hv', -⟩ := end_both T a7 e7 R7 i7 (by omega)
      rw [hv', Option.bind_some]
      dsimp only
      by_cases h8 : v = 0
      · rw [if_pos h8, right_f b p t m (wrap64 x) d 2000 zp zt zm zd (by omega) k (by omega), Option.bind_some, decide_eq_false hc, Bool.false_and, if_neg (by decide)]
        exact bad
      · rw [if_neg h8]; exact bad
theorem extract_both (s R : ByteArray) (a : Int) (h : Sim s a R) (n : Int) (hn0 : 0 ≤ n) (hn : n ≤ R.size) : R.extract 0 n.toNat = s.extract a.toNat (a + n).toNat := by
  have h0 := h.h0
  have h1 := h.h1
  have hz := h.size
  rw [h.hR]
  apply ext_list
  rw [extract_list, extract_list, extract_list, List.drop_zero, List.take_take]
  congr 1
  omega
theorem decode_both (s : ByteArray) (hs : s.size ≤ 1000000) (k : Nat) (hk : 2000100 ≤ k) :
    ∃ c p t m n d len code, cmd_decode.f k s = some (c, p, t, m, n, d, len, errO code) ∧ coppiceref19_Decode.f k s = some (c, p, t, m, n, d, len, code) := by
  have bad : ∀ x : Int, (x = 20 ∨ x = 190) → ∃ c p t m n d len code, some (noCmd x) = some (c, p, t, m, n, d, len, errO code) ∧ some (noRec2 x) = some (c, p, t, m, n, d, len, code) := by
    intro x hx
    refine ⟨0, ⟨#[]⟩, ⟨#[]⟩, ⟨#[]⟩, 0, ⟨#[]⟩, 0, x, ?_, rfl⟩
    unfold noCmd errO
    rw [if_neg (by omega)]
  obtain ⟨n, a1, e1, R, hp, hq, i1, hn, -⟩ := short_both s 0 0 s (Sim.start s) (by omega) k (by omega)
  have hz := i1.size
  have i0 := i1.h0
  have i1' := i1.h1
  have hr : rsl s 0 10 0 0 = some (n, s, a1, e1) := by rw [← short_ok s 0 (by omega) (by omega) (by omega)]; exact hp
  have he : e1 = 0 ∨ e1 = 20 ∨ e1 = 21 := by
    obtain ⟨n', at', e', hr', g⟩ := rsl_cases s 0 9 0 0 (by omega)
    replace hr' : rsl s 0 10 0 0 = some (n', s, at', e') := hr'
    rw [hr] at hr'
    simp only [Option.some.injEq, Prod.mk.injEq] at hr'
    omega
  unfold cmd_decode.f coppiceref19_Decode.f
  rw [hq, Option.bind_some]
  dsimp only
  by_cases h0 : e1 = 0
  · subst h0
    rw [if_neg (by decide), if_pos rfl, if_pos ⟨hn.1, by omega⟩]
    by_cases hl : n > (R.size : Int)
    · rw [if_pos hl]
      by_cases hl2 : n > (s.size : Int)
      · rw [text_long s 0 (by omega) (by omega) (by omega) k (by omega) (s.size : Int) n a1 ⟨by omega, by omega⟩ hr (.inr hl2), Option.bind_some]
        dsimp only
        rw [if_neg (by decide), if_neg (by decide)]
        exact bad 20 (.inl rfl)
      · rw [text_short s 0 (by omega) (by omega) (by omega) k (by omega) (s.size : Int) n a1 ⟨by omega, by omega⟩ hr ⟨by omega, by omega⟩ (by omega), Option.bind_some]
        dsimp only
        rw [if_neg (by decide), if_neg (by decide)]
        exact bad 20 (.inl rfl)
    · rw [if_neg hl, text_ok s 0 (by omega) (by omega) (by omega) k (by omega) (s.size : Int) n a1 ⟨by omega, by omega⟩ hr ⟨by omega, by omega⟩ (by omega), Option.bind_some]
      dsimp only
      rw [if_pos rfl, extract_both s R a1 i1 n hn.1 (by omega)]
      have hTz : (s.extract a1.toNat (a1 + n).toNat).size ≤ 1000000 := by rw [ByteArray.size_extract]; omega
      obtain ⟨c, p, t, m, n', d, code, h3, h4, h5⟩ := body_both (s.extract a1.toNat (a1 + n).toNat) hTz k hk (wrap64 ((s.size : Int) - wrap64 ((s.size : Int) - (a1 + n))))
      rw [h4, Option.bind_some]
      dsimp only
      rcases h5 with rfl | ⟨rfl, rfl, rfl, rfl, rfl, rfl, rfl⟩
      · rw [if_pos rfl] at h3
        refine ⟨c, p, t, m, n', d, _, 0, h3, ?_⟩
        rw [if_pos rfl]
        have e1 : wrap64 ((s.size : Int) - (a1 + n)) = (s.size : Int) - (a1 + n) := by unfold wrap64; omega
        have e2 : wrap64 ((s.size : Int) - ((s.size : Int) - (a1 + n))) = a1 + n := by unfold wrap64; omega
        have e3 : wrap64 ((s.size : Int) - (R.size : Int)) = a1 := by unfold wrap64; omega
        have e4 : wrap64 n = n := by unfold wrap64; omega
        have e5 : wrap64 (a1 + n) = a1 + n := by unfold wrap64; omega
        rw [e1, e2, e3, e4, e5]
      · rw [if_neg (by decide)] at h3
        refine ⟨0, ⟨#[]⟩, ⟨#[]⟩, ⟨#[]⟩, 0, ⟨#[]⟩, 0, 190, h3, ?_⟩
        rw [if_neg (by decide)]
        rfl
  · rw [text_err s 0 (by omega) (by omega) (by omega) k (s.size : Int) n a1 e1 hr h0, Option.bind_some]
    dsimp only
    rw [if_neg h0]
    rcases he with h | rfl | rfl
    · exact absurd h h0
    · rw [if_neg (by decide), if_pos rfl]; exact bad 20 (.inl rfl)
    · rw [if_pos rfl, if_neg (by decide), if_neg (by decide)]; exact bad 190 (.inr rfl)
end Go.Proofs.YtofdpgcnconibaaGreatDoor.CmdP
