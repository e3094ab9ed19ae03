/- CmdBack: a record is read as its command, whatever stands behind it; what is read has just this record: for every command and all bytes (the law itself lets go those with texts of more than 1500 bytes, and bytes of more than 2^13). -/
import Derived.Test.YtofdpgcnconibaaGreatDoorPAx18
import Derived.Test.YtofdpgcnconibaaGreatDoorCmdB
import Derived.Test.YtofdpgcnconibaaGreatDoorCmdT
namespace Go.Proofs.YtofdpgcnconibaaGreatDoor.Pure
open Go.RowKit Go.Proofs.YtofdpgcnconibaaGreatDoor.PA Go.Proofs.YtofdpgcnconibaaGreatDoorW.PrintWords Go.Proofs.YtofdpgcnconibaaGreatDoorW.PrintLast
open Go.Proofs.YtofdpgcnconibaaGreatDoor.Plain Go.Proofs.YtofdpgcnconibaaGreatDoor.CmdP Go.Proofs.YtofdpgcnconibaaGreatDoor.PathP
theorem back_j1 (s : ByteArray) (hs : s.size ≤ 8192) (k : Nat) (hk : 1000100 ≤ k) : coppicelaw19_CmdBack.j1 (k + 1) s false = some true := by
  simp only [coppicelaw19_CmdBack.j1]
  rw [if_neg (by decide)]
  obtain ⟨c, p, t, m, n, d, len, code, hd, g⟩ := decode_own s (by omega) k hk
  rw [Dec_f s k c p t m n d len code hd, Option.bind_some]
  dsimp only
  rcases g with ⟨rfl, hg, l0, l1, hx, -, ⟨zp, zt, zm, zd⟩, -⟩ | ⟨hc, rfl, rfl, rfl, rfl, rfl, rfl, rfl⟩
  · have e0 : (toldR 0).1 = 0 := rfl
    rw [if_pos e0, Enc_f c p t m n d 2000 zp zt zm zd (by omega) k (by omega), Option.bind_some]
    unfold encR
    rw [if_pos hg]
    dsimp only
    rw [if_pos e0, if_pos l1, if_pos l0, hx]
    simp
  · have e0 : (toldR code).1 ≠ 0 := by
      unfold toldR
      rw [if_neg (by omega)]
      show code ≠ 0
      omega
    rw [if_neg e0, if_pos rfl]
    have e1 : (⟨#[]⟩ : ByteArray).toList = [] := by rw [ByteArray.toList_eq]
    rw [e1]
    rfl
theorem back_j0 (c : Int) (p t m : ByteArray) (n : Int) (d : ByteArray) (zp : p.size ≤ 1500) (zt : t.size ≤ 1500) (zm : m.size ≤ 400) (zd : d.size ≤ 400) (hn : -9223372036854775808 ≤ n ∧ n ≤ 9223372036854775807)
    (w s : ByteArray) (hw : w.size ≤ 4096) (hs : s.size ≤ 8192) (k : Nat) (hk : 1000101 ≤ k) : coppicelaw19_CmdBack.j0 (k + 1) w s false c p t m n d = some true := by
  obtain ⟨k, rfl⟩ : ∃ q, k = q + 1 := ⟨k - 1, by omega⟩
  have hj := back_j1 s hs k (by omega)
  simp only [coppicelaw19_CmdBack.j0]
  rw [if_neg (by decide), Enc_f c p t m n d 1500 zp zt (by omega) (by omega) (by omega) (k + 1) (by omega), Option.bind_some]
  dsimp only
  by_cases hg : goodB c p t m n d = true
  · have hz : (textB (bodyR c p t m n d)).size ≤ 100000 := by
      have z1 := putB_piece
      have y0 : (strOfNums [c % 256]).size = 1 := rfl
      have y1 := text_size p
      have y2 := text_size t
      have y3 := text_size m
      have y4 := fixed_size (n % 18446744073709551616)
      have y5 := short_size (n % 18446744073709551616)
      have y6 := text_size d
      have y7 := text_size (bodyR c p t m n d)
      have zpiece : ∀ (b : Bool) (x : ByteArray), (piece b x).size ≤ x.size := fun b x => piece_le b x
      have q1 := zpiece (c != 16) (textB p)
      have q2 := zpiece (formR c).1 (textB t)
      have q3 := zpiece (formR c).2.1 (textB m)
      have q4 := zpiece ((formR c).2.2.2.1 && (c == 15)) (strOfNums (fixedNums (n % 18446744073709551616)))
      have q5 := zpiece ((formR c).2.2.2.1 && (c != 15)) (strOfNums (shortNums 9 (n % 18446744073709551616)))
      have q6 := zpiece (formR c).2.2.1 (textB d)
      have hb : (bodyR c p t m n d).size ≤ 10000 := by
        unfold bodyR
        simp only [putB_piece, ByteArray.size_append]
        omega
      omega
    have hd := decode_at c p t m n d hg (by omega) (by omega) (by omega) (by omega) hn w (by omega) (k + 1) (by omega)
    unfold encR
    rw [if_pos hg]
    dsimp only
    rw [if_pos (by omega), Dec_f _ _ _ _ _ _ _ _ _ 0 hd, Option.bind_some]
    dsimp only
    have e0 : (toldR 0).1 = 0 := rfl
    rw [if_pos e0, if_pos e0]
    simp only [beq_self_eq_true, Bool.not_true, Bool.or_false, Bool.false_eq_true, if_false, bne_self_eq_false]
    exact hj
  · obtain ⟨c', p', t', m', n', d', len, code, hd, -⟩ := decode_own ((⟨#[]⟩ : ByteArray) ++ w) (by rw [empty_append]; omega) (k + 1) (by omega)
    unfold encR
    rw [if_neg hg]
    dsimp only
    rw [if_pos (by have : (⟨#[]⟩ : ByteArray).size = 0 := rfl; omega), Dec_f _ _ _ _ _ _ _ _ _ code hd, Option.bind_some]
    dsimp only
    have e0 : (toldR 190).1 ≠ 0 := by decide
    rw [if_neg e0]
    exact hj
theorem CmdBack : coppicelaw19_CmdBack.Pure := by
  intro ⟨c, p, t, m, n, d⟩ w s hx _ _
  refine ⟨2000000, ?_⟩
  have hn : -9223372036854775808 ≤ n ∧ n ≤ 9223372036854775807 := by
    have := hx.2.2.2.2.1
    simp [Lit.wf, IntKind.min, IntKind.max, IntKind.signed, IntKind.bits] at this
    omega
  clear hx
  unfold coppicelaw19_CmdBack.f
  rw [awake19 _ (by omega), Option.bind_some, if_pos rfl]
  have yes : coppicelaw19_CmdBack.j0 2000000 w s true c p t m n d = some true := by
    rw [show (2000000 : Nat) = 1999999 + 1 from rfl, coppicelaw19_CmdBack.j0, if_pos rfl]
  rcases great_one c p t m n d 2000000 (by omega) with h | ⟨h, h1, h2, h3, h4⟩
  · rw [h, Option.bind_some, if_pos rfl]; exact yes
  rw [h, Option.bind_some, if_neg (by decide)]
  by_cases hw : (w.size : Int) > 4096
  · rw [if_pos hw]; exact yes
  rw [if_neg hw]
  by_cases hs : (s.size : Int) > 8192
  · rw [decide_eq_true hs]; exact yes
  rw [decide_eq_false hs]
  exact back_j0 c p t m n d h1 h2 h3 h4 hn w s (by omega) (by omega) 1999999 (by omega)
end Go.Proofs.YtofdpgcnconibaaGreatDoor.Pure
