import Derived.Test.YtofdpgcnconibaaGreatDoorPAx10
import Derived.Test.YtofdpgcnconibaaGreatDoorPAx11
import Derived.Test.YtofdpgcnconibaaGreatDoorCmd
/-! Commands: the program's records. -/
set_option linter.unusedVariables false
set_option linter.unusedSimpArgs false
namespace Go.Proofs.YtofdpgcnconibaaGreatDoor.CmdP
open Go.RowKit Go.Proofs.YtofdpgcnconibaaGreatDoor.PA Go.Proofs.YtofdpgcnconibaaGreatDoorW.PrintWords Go.Proofs.YtofdpgcnconibaaGreatDoorW.PrintLast Go.Proofs.YtofdpgcnconibaaGreatDoorW.PrintMore
open Go.Proofs.YtofdpgcnconibaaGreatDoor.Plain Go.Proofs.YtofdpgcnconibaaGreatDoor.PathP Go.Proofs.YtofdpgcnconibaaGreatDoor.TargetP
/-- A record's bytes behind their length. -/
def bodyR (c : Int) (p t m : ByteArray) (n : Int) (d : ByteArray) : ByteArray :=
  putB (putB (putB (putB (putB (putB (strOfNums [c % 256]) (c != 16) (textB p)) (formR c).1 (textB t)) (formR c).2.1 (textB m)) ((formR c).2.2.2.1 && (c == 15)) (strOfNums (fixedNums (n % 18446744073709551616)))) ((formR c).2.2.2.1 && (c != 15)) (strOfNums (shortNums 9 (n % 18446744073709551616)))) (formR c).2.2.1 (textB d)
/-- A record, or the error. -/
def encR (c : Int) (p t m : ByteArray) (n : Int) (d : ByteArray) : ByteArray × Int := if goodB c p t m n d = true then (textB (bodyR c p t m n d), 0) else (⟨#[]⟩, 190)
theorem enc_f (c : Int) (p t m : ByteArray) (n : Int) (d : ByteArray) (N : Nat) (hp : p.size ≤ N) (ht : t.size ≤ N) (hm : m.size ≤ N) (hd : d.size ≤ N) (hN : N ≤ 1000000) (k : Nat) (hk : N + 30 ≤ k) :
    cmd_encode.f k c p t m n d = some ((encR c p t m n d).1, if goodB c p t m n d = true then none else some 190) := by
  unfold cmd_encode.f encR
  rw [check_f c p t m n d N hp ht hN k hk, Option.bind_some]
  by_cases h : goodB c p t m n d = true
  · rw [if_pos h, if_pos h]
    show (cmd_of.f k c).bind _ = _
    rw [of_f c k (by omega), Option.bind_some, if_pos (by omega)]
    rfl
  · rw [if_neg h, if_neg h]
theorem tell_none : api_Tell.f none = some (0, 0, 0) := rfl
theorem tell_some (e : Int) : api_Tell.f (some e) = some (e, 0, -1) := rfl
/-- What is told of an error number of no record. -/
def toldR (e : Int) : Int × Int × Int := if e = 0 then (0, 0, 0) else (e, 0, -1)
theorem Enc_f (c : Int) (p t m : ByteArray) (n : Int) (d : ByteArray) (N : Nat) (hp : p.size ≤ N) (ht : t.size ≤ N) (hm : m.size ≤ N) (hd : d.size ≤ N) (hN : N ≤ 1000000) (k : Nat) (hk : N + 30 ≤ k) :
    cmd_Encode.f k c p t m n d = some ((encR c p t m n d).1, toldR (encR c p t m n d).2) := by
  unfold cmd_Encode.f
  rw [enc_f c p t m n d N hp ht hm hd hN k hk, Option.bind_some]
  unfold encR toldR
  by_cases h : goodB c p t m n d = true
  · rw [if_pos h, if_pos h, tell_none]; rfl
  · rw [if_neg h, if_neg h, tell_some]; rfl
theorem awake19 (k : Nat) (hk : 100 ≤ k) : coppicelaw19_awake.f k = some true := by
  unfold coppicelaw19_awake.f
  have z0 : (⟨#[]⟩ : ByteArray).size = 0 := rfl
  have z2 : (⟨#[47, 97]⟩ : ByteArray).size = 2 := rfl
  rw [Enc_f _ _ _ _ _ _ 2 (by omega) (by omega) (by omega) (by omega) (by omega) k (by omega), Option.bind_some, Enc_f _ _ _ _ _ _ 2 (by omega) (by omega) (by omega) (by omega) (by omega) k (by omega), Option.bind_some]
  have hl : looseOk (⟨#[47, 97]⟩ : ByteArray) = true := by
    have hn : nameB (⟨#[97]⟩ : ByteArray) = true := by
      unfold nameB nameOk
      rw [ByteArray.toList_eq]
      decide +kernel
    unfold looseOk looseR pathNames
    have hc : cutS (ofL (⟨#[47, 97]⟩ : ByteArray).data.toList.tail) = [⟨#[97]⟩] := by decide +kernel
    rw [if_neg (by decide), if_pos (by decide), hc, if_pos ⟨by decide, by
      simp only [List.head?_cons, Option.any_some]
      unfold looseB
      rw [hn, Bool.or_true], by rfl⟩]
    rfl
  have h1 : goodB 6 (⟨#[47, 97]⟩ : ByteArray) ⟨#[]⟩ ⟨#[]⟩ 0 ⟨#[]⟩ = true := by
    unfold goodB chkB
    rw [hl]
    decide +kernel
  have h2 : goodB 0 (⟨#[]⟩ : ByteArray) ⟨#[]⟩ ⟨#[]⟩ 0 ⟨#[]⟩ = false := by
    unfold goodB chkB formR
    simp
  unfold encR
  rw [if_pos h1, if_neg (Bool.eq_false_iff.1 h2)]
  have hb : (textB (bodyR 6 (⟨#[47, 97]⟩ : ByteArray) ⟨#[]⟩ ⟨#[]⟩ 0 ⟨#[]⟩)).toList = [4, 6, 2, 47, 97] := by
    rw [ByteArray.toList_eq]; decide +kernel
  rw [hb]
  decide +kernel
end Go.Proofs.YtofdpgcnconibaaGreatDoor.CmdP
