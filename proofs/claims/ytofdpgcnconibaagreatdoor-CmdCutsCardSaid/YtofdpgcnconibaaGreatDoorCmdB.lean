import Derived.Test.YtofdpgcnconibaaGreatDoorPAx10
import Derived.Test.YtofdpgcnconibaaGreatDoorPAx14
import Derived.Test.YtofdpgcnconibaaGreatDoorPAx16
import Derived.Test.YtofdpgcnconibaaGreatDoorPAx17
import Derived.Test.YtofdpgcnconibaaGreatDoorPAx8
import Derived.Test.YtofdpgcnconibaaGreatDoorCmdD
/-! Commands: a record is read as its command. -/
set_option linter.unusedVariables false
set_option linter.unusedSimpArgs false
namespace Go.Proofs.YtofdpgcnconibaaGreatDoor.CmdP
open Go.RowKit Go.Proofs.YtofdpgcnconibaaGreatDoor.PA Go.Proofs.YtofdpgcnconibaaGreatDoorW.PrintWords Go.Proofs.YtofdpgcnconibaaGreatDoorW.PrintLast Go.Proofs.YtofdpgcnconibaaGreatDoorW.PrintMore
open Go.Proofs.YtofdpgcnconibaaGreatDoor.Plain Go.Proofs.YtofdpgcnconibaaGreatDoor.PathP Go.Proofs.YtofdpgcnconibaaGreatDoor.TargetP Go.Proofs.YtofdpgcnconibaaGreatDoor.OwnP Go.Proofs.YtofdpgcnconibaaGreatDoor.PackP
theorem Dec_f (s : ByteArray) (k : Nat) (c : Int) (p t m : ByteArray) (n : Int) (d : ByteArray) (len code : Int) (h : cmd_decode.f k s = some (c, p, t, m, n, d, len, errO code)) :
    cmd_Decode.f k s = some (c, p, t, m, n, d, len, toldR code) := by
  unfold cmd_Decode.f
  rw [h, Option.bind_some]
  unfold errO toldR
  by_cases h0 : code = 0
  · rw [if_pos h0, if_pos h0, tell_none]; rfl
  · rw [if_neg h0, if_neg h0, tell_some]; rfl
theorem textB_size (x : ByteArray) : (textB x).size = (shortNums 9 x.size).length + x.size := by unfold textB; rw [ByteArray.size_append, strOfNums_size]
theorem piece_le (b : Bool) (x : ByteArray) : (piece b x).size ≤ x.size := by
  cases b
  · exact Nat.zero_le _
  · exact Nat.le_refl _
theorem piece_size0 (x : ByteArray) : (piece false x).size = 0 := rfl
theorem rdT_at (has : Bool) (x : ByteArray) (hx : has = false → x = ⟨#[]⟩) (hz : x.size ≤ 2000) (s u w : ByteArray) (a : Int) (hs : s = u ++ piece has (textB x) ++ w) (ha : a = (u.size : Int)) (h2 : s.size ≤ 4611686018427387904) (k : Nat) (hk : 0 < k) :
    rdT k has s a 0 = some (x, s, a + ((piece has (textB x)).size : Int), 0) := by
  cases has with
  | true =>
    have := at_text u w x k hk s a hs ha h2 2000 ⟨by omega, by omega⟩
    have e : (piece true (textB x)).size = (shortNums 9 x.size).length + x.size := textB_size x
    show pack_Reader_Text.f k s a 0 2000 = _
    rw [this, e]
    congr 4
    omega
  | false =>
    rw [hx rfl]
    show some ((⟨#[]⟩ : ByteArray), s, a, (0 : Int)) = some (_, _, a + ((0 : Nat) : Int), _)
    rw [show a + ((0 : Nat) : Int) = a by omega]
theorem wrap_back (n : Int) (h : -9223372036854775808 ≤ n ∧ n ≤ 9223372036854775807) : wrap64 (n % 18446744073709551616) = n := by unfold wrap64; omega
theorem rdN_at (fx sh : Bool) (n : Int) (hn : -9223372036854775808 ≤ n ∧ n ≤ 9223372036854775807) (h0 : fx = false → sh = false → n = 0) (s u w : ByteArray) (a : Int)
    (hs : s = u ++ (piece fx (strOfNums (fixedNums (n % 18446744073709551616))) ++ piece (!fx && sh) (strOfNums (shortNums 9 (n % 18446744073709551616)))) ++ w) (ha : a = (u.size : Int)) (h2 : s.size ≤ 4611686018427387904) (k : Nat) (hk : 8 < k) :
    rdN k fx sh s a 0 = some (n, s, a + ((piece fx (strOfNums (fixedNums (n % 18446744073709551616))) ++ piece (!fx && sh) (strOfNums (shortNums 9 (n % 18446744073709551616)))).size : Int), 0) := by
  have m0 : 0 ≤ n % 18446744073709551616 := Int.emod_nonneg _ (by decide)
  have m1 : n % 18446744073709551616 < 18446744073709551616 := Int.emod_lt_of_pos _ (by decide)
  cases fx with
  | true =>
    have e : (piece true (strOfNums (fixedNums (n % 18446744073709551616))) ++ piece (!true && sh) (strOfNums (shortNums 9 (n % 18446744073709551616)))) = strOfNums (fixedNums (n % 18446744073709551616)) := append_empty _
    rw [e] at hs ⊢
    have z : (strOfNums (fixedNums (n % 18446744073709551616))).size = 8 := by rw [strOfNums_size]; rfl
    unfold rdN
    rw [if_pos rfl, at_fixed u w _ m0 m1 k hk s a hs ha h2, Option.bind_some, z]
    show some (wrap64 (n % 18446744073709551616), _) = _
    rw [wrap_back n hn]; rfl
  | false =>
    cases sh with
    | true =>
      have e : (piece false (strOfNums (fixedNums (n % 18446744073709551616))) ++ piece (!false && true) (strOfNums (shortNums 9 (n % 18446744073709551616)))) = strOfNums (shortNums 9 (n % 18446744073709551616)) := empty_append _
      rw [e] at hs ⊢
      have z : (strOfNums (shortNums 9 (n % 18446744073709551616))).size = (shortNums 9 (n % 18446744073709551616)).length := strOfNums_size _
      unfold rdN
      rw [if_neg (by decide), if_pos rfl, at_short u w _ m0 m1 s a hs ha h2, Option.bind_some, z]
      show some (wrap64 (n % 18446744073709551616), _) = _
      rw [wrap_back n hn]
    | false =>
      rw [h0 rfl rfl]
      show some ((0 : Int), s, a, (0 : Int)) = some (_, _, a + ((0 : Nat) : Int), _)
      rw [show a + ((0 : Nat) : Int) = a by omega]
/-- What a kind hasn't is empty. -/
theorem good_tells (c : Int) (p t m : ByteArray) (n : Int) (d : ByteArray) (hg : goodB c p t m n d = true) : (1 ≤ c ∧ c ≤ 16) ∧ (formR c).2.2.2.2.2.2 = true ∧ (c = 16 → p = ⟨#[]⟩) ∧ ((formR c).1 = false → t = ⟨#[]⟩) ∧ ((formR c).2.1 = false → m = ⟨#[]⟩) ∧
    ((formR c).2.2.2.1 = false → n = 0) ∧ ((formR c).2.2.1 = false → d = ⟨#[]⟩) := by
  have nil : ∀ x : ByteArray, x.size = 0 → x = ⟨#[]⟩ := fun x hx => ext_list (List.eq_nil_of_length_eq_zero (by rw [lenL]; exact hx))
  unfold goodB chkB at hg
  simp only [Bool.and_eq_true] at hg
  obtain ⟨h1, h2, h3, h4, h5, h6, h7⟩ := hg
  have hc : 1 ≤ c ∧ c ≤ 16 := by
    rcases kinds c with rfl | rfl | rfl | rfl | rfl | rfl | rfl | rfl | rfl | rfl | rfl | rfl | rfl | rfl | rfl | rfl | h
    case inr.inr.inr.inr.inr.inr.inr.inr.inr.inr.inr.inr.inr.inr.inr.inr =>
      exfalso
      unfold formR at h1
      repeat rw [if_neg (by omega)] at h1
      cases h1
    all_goals omega
  refine ⟨hc, h1, fun h => ?_, fun h => ?_, fun h => ?_, fun h => ?_, fun h => ?_⟩
  · rw [if_pos h, decide_eq_true_eq] at h2; exact nil p h2
  · rw [if_neg (by rw [h]; decide), decide_eq_true_eq] at h4; exact nil t h4
  · rw [if_neg (by rw [h]; decide), decide_eq_true_eq] at h5; exact nil m h5
  · rw [decide_eq_true_eq] at h6 h7
    revert h h6 h7
    rcases kinds c with rfl | rfl | rfl | rfl | rfl | rfl | rfl | rfl | rfl | rfl | rfl | rfl | rfl | rfl | rfl | rfl | h
    case inr.inr.inr.inr.inr.inr.inr.inr.inr.inr.inr.inr.inr.inr.inr.inr => omega
    all_goals (simp only [formR]; simp; try omega)
  · revert h h3
    unfold fitsB
    rcases kinds c with rfl | rfl | rfl | rfl | rfl | rfl | rfl | rfl | rfl | rfl | rfl | rfl | rfl | rfl | rfl | rfl | h
    case inr.inr.inr.inr.inr.inr.inr.inr.inr.inr.inr.inr.inr.inr.inr.inr => omega
    all_goals (simp [formR]; try (intro h; exact nil d (by first | exact h | (rw [h]; rfl))))
theorem decode_at (c : Int) (p t m : ByteArray) (n : Int) (d : ByteArray) (hg : goodB c p t m n d = true) (zp : p.size ≤ 2000) (zt : t.size ≤ 2000) (zm : m.size ≤ 2000) (zd : d.size ≤ 2000)
    (hn : -9223372036854775808 ≤ n ∧ n ≤ 9223372036854775807) (w : ByteArray) (hw : w.size ≤ 100000) (k : Nat) (hk : 1000100 ≤ k) :
    cmd_decode.f k (textB (bodyR c p t m n d) ++ w) = some (c, p, t, m, n, d, ((textB (bodyR c p t m n d)).size : Int), none) := by
  obtain ⟨hc, his, g1, g2, g3, g4, g5⟩ := good_tells c p t m n d hg
  have hall : bodyR c p t m n d = strOfNums [c] ++ piece (c != 16) (textB p) ++ piece (formR c).1 (textB t) ++ piece (formR c).2.1 (textB m) ++
      (piece ((formR c).2.2.2.1 && (c == 15)) (strOfNums (fixedNums (n % 18446744073709551616))) ++ piece (!((formR c).2.2.2.1 && (c == 15)) && (formR c).2.2.2.1) (strOfNums (shortNums 9 (n % 18446744073709551616)))) ++ piece (formR c).2.2.1 (textB d) := by
    unfold bodyR
    simp only [putB_piece]
    have hc256 : c % 256 = c := by omega
    have hx : (!((formR c).2.2.2.1 && (c == 15)) && (formR c).2.2.2.1) = ((formR c).2.2.2.1 && (c != 15)) := by
      show _ = ((formR c).2.2.2.1 && !(c == 15))
      cases (formR c).2.2.2.1 <;> cases (c == 15) <;> rfl
    rw [hc256, hx]
    simp only [ByteArray.append_assoc]
  have zpiece : ∀ (b : Bool) (x : ByteArray), (piece b x).size ≤ x.size := fun b x => piece_le b x
  have z1 := zpiece (c != 16) (textB p)
  have z2 := zpiece (formR c).1 (textB t)
  have z3 := zpiece (formR c).2.1 (textB m)
  have z4 := zpiece ((formR c).2.2.2.1 && (c == 15)) (strOfNums (fixedNums (n % 18446744073709551616)))
  have z5 := zpiece (!((formR c).2.2.2.1 && (c == 15)) && (formR c).2.2.2.1) (strOfNums (shortNums 9 (n % 18446744073709551616)))
  have z6 := zpiece (formR c).2.2.1 (textB d)
  have y1 := text_size p
  have y2 := text_size t
  have y3 := text_size m
  have y4 := fixed_size (n % 18446744073709551616)
  have y5 := short_size (n % 18446744073709551616)
  have y6 := text_size d
  have y0 : (strOfNums [c]).size = 1 := rfl
  have hgk := check_f c p t m n d 2000 zp zt (by omega) k (by omega)
  rw [hg, if_pos rfl] at hgk
  generalize hT : bodyR c p t m n d = T at *
  generalize hP1 : piece (c != 16) (textB p) = P1 at *
  generalize hP2 : piece (formR c).1 (textB t) = P2 at *
  generalize hP3 : piece (formR c).2.1 (textB m) = P3 at *
  generalize hP4 : piece ((formR c).2.2.2.1 && (c == 15)) (strOfNums (fixedNums (n % 18446744073709551616))) ++ piece (!((formR c).2.2.2.1 && (c == 15)) && (formR c).2.2.2.1) (strOfNums (shortNums 9 (n % 18446744073709551616))) = P4 at *
  generalize hP5 : piece (formR c).2.2.1 (textB d) = P5 at *
  have z45 : P4.size ≤ 32 := by rw [← hP4, ByteArray.size_append]; omega
  have hTz : T.size = 1 + P1.size + P2.size + P3.size + P4.size + P5.size := by rw [hall]; simp only [ByteArray.size_append]; omega
  have hsz : (textB T ++ w).size = (textB T).size + w.size := ByteArray.size_append
  have hts := textB_size T
  have hlt := shortNums_len 9 T.size
  generalize hS : textB T ++ w = S at *
  have hr1 : pack_Reader_Text.f k S 0 0 (S.size : Int) = some (T, S, ((textB T).size : Int), 0) := by
    have := at_text (⟨#[]⟩ : ByteArray) w T k (by omega) S 0 (by rw [empty_append]; exact hS.symm) rfl (by omega) (S.size : Int) ⟨by omega, by omega⟩
    rw [this, hts]
    congr 4
    omega
  have hb : bt T 0 = c := by
    have := mid_nums (⟨#[]⟩ : ByteArray) (P1 ++ (P2 ++ (P3 ++ (P4 ++ P5)))) [c] (by intro x hx; rw [List.mem_singleton] at hx; omega) 0 (by simp)
    rw [empty_append] at this
    have e : T = strOfNums [c] ++ (P1 ++ (P2 ++ (P3 ++ (P4 ++ P5)))) := by rw [hall]; simp only [ByteArray.append_assoc]
    rw [e]
    exact this
  have hr2 : pack_Reader_Byte.f T 0 0 = some (c, T, 1, 0) := by
    rw [byte_ok T 0 (by omega) (by omega) (by omega) (by omega), hb]; rfl
  have h3 := rdT_at (c != 16) p (fun h => g1 (by simpa using h)) zp T (strOfNums [c]) (P2 ++ (P3 ++ (P4 ++ P5))) 1 (by rw [hall, hP1]; simp only [ByteArray.append_assoc]) rfl (by omega) k (by omega)
  rw [hP1] at h3
  have h4 := rdT_at (formR c).1 t g2 zt T (strOfNums [c] ++ P1) (P3 ++ (P4 ++ P5)) (1 + (P1.size : Int)) (by rw [hall, hP2]; simp only [ByteArray.append_assoc]) (by rw [ByteArray.size_append]; omega) (by omega) k (by omega)
  rw [hP2] at h4
  have h5 := rdT_at (formR c).2.1 m g3 zm T (strOfNums [c] ++ P1 ++ P2) (P4 ++ P5) (1 + (P1.size : Int) + (P2.size : Int)) (by rw [hall, hP3]; simp only [ByteArray.append_assoc]) (by rw [ByteArray.size_append, ByteArray.size_append]; omega) (by omega) k (by omega)
  rw [hP3] at h5
  have h6 := rdN_at ((formR c).2.2.2.1 && (c == 15)) (formR c).2.2.2.1 n hn (fun _ h => g4 h) T (strOfNums [c] ++ P1 ++ P2 ++ P3) P5 (1 + (P1.size : Int) + (P2.size : Int) + (P3.size : Int)) (by rw [hP4]; exact hall) (by simp only [ByteArray.size_append]; omega) (by omega) k (by omega)
  rw [hP4] at h6
  have h7 := rdT_at (formR c).2.2.1 d g5 zd T (strOfNums [c] ++ P1 ++ P2 ++ P3 ++ P4) ⟨#[]⟩ (1 + (P1.size : Int) + (P2.size : Int) + (P3.size : Int) + (P4.size : Int)) (by rw [hP5, append_empty]; exact hall) (by simp only [ByteArray.size_append]; omega) (by omega) k (by omega)
  rw [hP5] at h7
  unfold cmd_decode.f
  rw [hr1, Option.bind_some]
  dsimp only
  rw [if_pos rfl, hr2, Option.bind_some]
  dsimp only
  rw [if_pos (by omega), of_f c k (by omega), Option.bind_some, if_pos his, h3, Option.bind_some]
  dsimp only
  rw [h4, Option.bind_some]
  dsimp only
  rw [h5, Option.bind_some]
  dsimp only
  rw [h6, Option.bind_some]
  dsimp only
  rw [h7, Option.bind_some]
  dsimp only
  have h8 : ∀ a : Int, a = (T.size : Int) → pack_Reader_End.f T a 0 = some (0, T, a, 0) := fun a ha => by unfold pack_Reader_End.f; rw [if_neg (by omega)]
  rw [h8 _ (by omega), Option.bind_some]
  dsimp only
  rw [if_pos rfl, hgk, Option.bind_some]
  have e1 : wrap64 ((S.size : Int) - ((textB T).size : Int)) = (S.size : Int) - ((textB T).size : Int) := by unfold wrap64; omega
  have e2 : wrap64 ((S.size : Int) - ((S.size : Int) - ((textB T).size : Int))) = ((textB T).size : Int) := by unfold wrap64; omega
  show some (c, p, t, m, n, d, wrap64 ((S.size : Int) - wrap64 ((S.size : Int) - ((textB T).size : Int))), (none : Option Int)) = _
  rw [e1, e2]
end Go.Proofs.YtofdpgcnconibaaGreatDoor.CmdP
