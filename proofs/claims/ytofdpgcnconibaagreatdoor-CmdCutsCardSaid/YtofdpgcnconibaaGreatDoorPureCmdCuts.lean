/- CmdCuts: of no beginning of a record a command is read: for every command (the law itself lets go those with texts of more than 1500 bytes) and every cut. -/
import Derived.Test.YtofdpgcnconibaaGreatDoorPAx19
import Derived.Test.YtofdpgcnconibaaGreatDoorCmdB
import Derived.Test.YtofdpgcnconibaaGreatDoorCuts
import Derived.Test.YtofdpgcnconibaaGreatDoorCmdT
namespace Go.Proofs.YtofdpgcnconibaaGreatDoor.Pure
open Go.RowKit Go.Proofs.YtofdpgcnconibaaGreatDoor.PA Go.Proofs.YtofdpgcnconibaaGreatDoorW.PrintWords Go.Proofs.YtofdpgcnconibaaGreatDoorW.PrintLast
open Go.Proofs.YtofdpgcnconibaaGreatDoor.Plain Go.Proofs.YtofdpgcnconibaaGreatDoor.CmdP Go.Proofs.YtofdpgcnconibaaGreatDoor.PathP
/-- A record whose last bytes are wanting. -/
theorem decode_cut (x : ByteArray) (hx : x.size ≤ 100000) (j : Nat) (hj : j < (textB x).size) (k : Nat) (hk : 0 < k) : cmd_decode.f k ((textB x).extract 0 j) = some (noCmd 20) := by
  obtain ⟨e, he, ht⟩ := CutP.text_cut x (by omega) j hj k hk
  have hz : ((textB x).extract 0 j).size = j := CutP.cut_size _ j hj
  unfold cmd_decode.f
  rw [hz]
  show ((pack_Reader_Text.f k ((textB x).extract 0 j) 0 0 (j : Int)).bind _) = _
  have ht' : pack_Reader_Text.f k ((textB x).extract 0 j) 0 0 (j : Int) = some (PackP.E, (textB x).extract 0 j, 0, e) := ht
  rw [ht', Option.bind_some]
  dsimp only
  rw [if_neg (by omega), if_neg (by omega)]
theorem cuts_j0 (c : Int) (p t m : ByteArray) (n : Int) (d : ByteArray) (zp : p.size ≤ 1500) (zt : t.size ≤ 1500) (zm : m.size ≤ 400) (zd : d.size ≤ 400) (cut : Int) (hc : 0 ≤ cut) (k : Nat) (hk : 1000101 ≤ k) :
    coppicelaw19_CmdCuts.j0 (k + 1) cut false c p t m n d = some true := by
  simp only [coppicelaw19_CmdCuts.j0]
  rw [if_neg (by decide), Enc_f c p t m n d 1500 zp zt (by omega) (by omega) (by omega) k (by omega), Option.bind_some]
  dsimp only
  unfold encR
  by_cases hg : goodB c p t m n d = true
  · have hb : (bodyR c p t m n d).size ≤ 10000 := by
      have y0 : (strOfNums [c % 256]).size = 1 := rfl
      have y1 := text_size p
      have y2 := text_size t
      have y3 := text_size m
      have y4 := fixed_size (n % 18446744073709551616)
      have y5 := short_size (n % 18446744073709551616)
      have y6 := text_size d
      have zpiece : ∀ (b : Bool) (x : ByteArray), (piece b x).size ≤ x.size := fun b x => piece_le b x
      have q1 := zpiece (c != 16) (textB p)
      have q2 := zpiece (formR c).1 (textB t)
      have q3 := zpiece (formR c).2.1 (textB m)
      have q4 := zpiece ((formR c).2.2.2.1 && (c == 15)) (strOfNums (fixedNums (n % 18446744073709551616)))
      have q5 := zpiece ((formR c).2.2.2.1 && (c != 15)) (strOfNums (shortNums 9 (n % 18446744073709551616)))
      have q6 := zpiece (formR c).2.2.1 (textB d)
      unfold bodyR
      simp only [putB_piece, ByteArray.size_append]
      omega
    generalize bodyR c p t m n d = x at *
    have hpos : 0 < (textB x).size := by
      rw [textB_size]
      have := shortNums_pos 9 x.size
      omega
    obtain ⟨j, hj, hlt⟩ := CutP.tmod_nat cut hc (textB x).size hpos
    rw [if_pos hg]
    dsimp only
    have e0 : (toldR 0).1 = 0 := rfl
    rw [if_pos e0, if_neg (by omega), hj, if_pos (by omega), if_pos (by omega), Int.toNat_natCast]
    have hd := decode_cut x (by omega) j hlt k (by omega)
    rw [Dec_f _ k 0 ⟨#[]⟩ ⟨#[]⟩ ⟨#[]⟩ 0 ⟨#[]⟩ 0 20 hd, Option.bind_some]
    dsimp only
    have e1 : (toldR 20).1 = 20 := rfl
    have e2 : (⟨#[]⟩ : ByteArray).toList = [] := by rw [ByteArray.toList_eq]
    rw [if_pos e1, if_pos rfl, e2]
    rfl
  · rw [if_neg hg]
    dsimp only
    have e0 : (toldR 190).1 ≠ 0 := by decide
    have e2 : (⟨#[]⟩ : ByteArray).toList = [] := by rw [ByteArray.toList_eq]
    rw [if_neg e0, e2]
    rfl
theorem CmdCuts : coppicelaw19_CmdCuts.Pure := by
  intro ⟨c, p, t, m, n, d⟩ cut hx _
  refine ⟨2000000, ?_⟩
  clear hx
  unfold coppicelaw19_CmdCuts.f
  rw [awake19 _ (by omega), Option.bind_some, if_pos rfl]
  have yes : coppicelaw19_CmdCuts.j0 2000000 cut true c p t m n d = some true := by
    rw [show (2000000 : Nat) = 1999999 + 1 from rfl, coppicelaw19_CmdCuts.j0, if_pos rfl]
  rcases great_one c p t m n d 2000000 (by omega) with h | ⟨h, h1, h2, h3, h4⟩
  · rw [h, Option.bind_some, if_pos rfl]; exact yes
  rw [h, Option.bind_some, if_neg (by decide)]
  by_cases hc : cut < 0
  · rw [decide_eq_true hc]; exact yes
  rw [decide_eq_false hc]
  exact cuts_j0 c p t m n d h1 h2 h3 h4 cut (by omega) 1999999 (by omega)
end Go.Proofs.YtofdpgcnconibaaGreatDoor.Pure
