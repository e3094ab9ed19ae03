import Derived.Test.YtofdpgcnconibaaGreatDoorPAx10
import Derived.Test.YtofdpgcnconibaaGreatDoorPAx14
import Derived.Test.YtofdpgcnconibaaGreatDoorPAx16
import Derived.Test.YtofdpgcnconibaaGreatDoorPAx8
import Derived.Test.YtofdpgcnconibaaGreatDoorCmdE
import Derived.Test.YtofdpgcnconibaaGreatDoorOwn
/-! Commands: what the program decodes. -/
set_option linter.unusedVariables false
set_option linter.unusedSimpArgs false
namespace Go.Proofs.YtofdpgcnconibaaGreatDoor.CmdP
open Go.RowKit Go.Proofs.YtofdpgcnconibaaGreatDoor.PA Go.Proofs.YtofdpgcnconibaaGreatDoorW.PrintWords Go.Proofs.YtofdpgcnconibaaGreatDoorW.PrintLast Go.Proofs.YtofdpgcnconibaaGreatDoorW.PrintMore
open Go.Proofs.YtofdpgcnconibaaGreatDoor.Plain Go.Proofs.YtofdpgcnconibaaGreatDoor.PathP Go.Proofs.YtofdpgcnconibaaGreatDoor.TargetP Go.Proofs.YtofdpgcnconibaaGreatDoor.OwnP
def piece (has : Bool) (x : ByteArray) : ByteArray := if has = true then x else ⟨#[]⟩
theorem putB_piece (s : ByteArray) (has : Bool) (x : ByteArray) : putB s has x = s ++ piece has x := by
  unfold putB piece
  cases has
  · exact (append_empty s).symm
  · rfl
theorem extract_more (s : ByteArray) (a b : Nat) (h : a ≤ b) (hb : b ≤ s.size) : s.extract 0 b = s.extract 0 a ++ s.extract a b := by
  apply ext_list
  rw [append_list, extract_list, extract_list, extract_list, List.drop_zero, Nat.sub_zero, Nat.sub_zero]
  rw [show b = a + (b - a) by omega, List.take_add, show a + (b - a) - a = b - a by omega]
theorem extract_nil (s : ByteArray) (a : Nat) : s.extract a a = ⟨#[]⟩ := by
  apply ext_list
  rw [extract_list]; simp
/-- What was read so far, and what comes now. -/
theorem read_more {s acc x : ByteArray} {a a' : Int} (h : s.extract 0 a.toNat = acc) (h0 : 0 ≤ a) (h1 : a ≤ a') (h2 : a' ≤ s.size) (hx : s.extract a.toNat a'.toNat = x) : s.extract 0 a'.toNat = acc ++ x := by
  rw [extract_more s a.toNat a'.toNat (by omega) (by omega), h, hx]
theorem rdT_own (has : Bool) (s : ByteArray) (a e : Int) (h : In s a) (h2 : s.size ≤ 4611686018427387904) (k : Nat) (hk : 20 ≤ k) :
    ∃ v a' e', rdT k has s a e = some (v, s, a', e') ∧ In s a' ∧ v.size ≤ 2000 ∧ (has = false → v = ⟨#[]⟩) ∧ (e' = 0 → e = 0 ∧ a ≤ a' ∧ s.extract a.toNat a'.toNat = piece has (textB v)) := by
  cases has with
  | true =>
    obtain ⟨v, a', e', h3, h4, h5, h6⟩ := text_own s a e h h2 k hk 2000 ⟨by omega, by omega⟩
    exact ⟨v, a', e', h3, h4, by omega, (fun h => by cases h), h6⟩
  | false => exact ⟨⟨#[]⟩, a, e, rfl, h, Nat.zero_le _, fun _ => rfl, fun he => ⟨he, Int.le_refl _, extract_nil s _⟩⟩
theorem wrap_mod (x : Int) (h : 0 ≤ x ∧ x < 18446744073709551616) : wrap64 x % 18446744073709551616 = x := by unfold wrap64; omega
theorem wrap_range (x : Int) : -9223372036854775808 ≤ wrap64 x ∧ wrap64 x ≤ 9223372036854775807 := by unfold wrap64; omega
theorem rdN_own (fx sh : Bool) (s : ByteArray) (a e : Int) (h : In s a) (h2 : s.size ≤ 4611686018427387904) (k : Nat) (hk : 20 ≤ k) :
    ∃ v a' e', rdN k fx sh s a e = some (v, s, a', e') ∧ In s a' ∧ (-9223372036854775808 ≤ v ∧ v ≤ 9223372036854775807) ∧ (fx = false → sh = false → v = 0) ∧
      (e' = 0 → e = 0 ∧ a ≤ a' ∧ s.extract a.toNat a'.toNat = piece fx (strOfNums (fixedNums (v % 18446744073709551616))) ++ piece (!fx && sh) (strOfNums (shortNums 9 (v % 18446744073709551616)))) := by
  cases fx with
  | true =>
    obtain ⟨x, a', e', h3, h4, h5, h6⟩ := fixed_own s a e h h2 k (by omega)
    refine ⟨wrap64 x, a', e', ?_, h4, wrap_range x, (fun h => by cases h), fun he => ?_⟩
    · unfold rdN; rw [if_pos rfl, h3]; rfl
    · obtain ⟨q1, q2, q3⟩ := h6 he
      refine ⟨q1, q2, ?_⟩
      rw [q3, wrap_mod x h5]
      exact (append_empty _).symm
  | false =>
    cases sh with
    | true =>
      obtain ⟨x, a', e', h3, h4, h5, h6⟩ := short_own s a e h h2
      refine ⟨wrap64 x, a', e', ?_, h4, wrap_range x, (fun _ h => by cases h), fun he => ?_⟩
      · unfold rdN; rw [if_neg (by decide), if_pos rfl, h3]; rfl
      · obtain ⟨q1, q2, q3⟩ := h6 he
        refine ⟨q1, q2, ?_⟩
        rw [q3, wrap_mod x h5]
        exact (empty_append _).symm
    | false =>
      exact ⟨0, a, e, rfl, h, by omega, fun _ _ => rfl, fun he => ⟨he, Int.le_refl _, by rw [extract_nil]; exact (append_empty _).symm⟩⟩
/-- What is told of an error's number. -/
def errO (code : Int) : Option Int := if code = 0 then none else some code
theorem decode_own (s : ByteArray) (hs : s.size ≤ 1000000) (k : Nat) (hk : 1000100 ≤ k) :
    ∃ c p t m n d len code, cmd_decode.f k s = some (c, p, t, m, n, d, len, errO code) ∧
      ((code = 0 ∧ goodB c p t m n d = true ∧ 0 ≤ len ∧ len ≤ s.size ∧ s.extract 0 len.toNat = textB (bodyR c p t m n d) ∧ (0 ≤ c ∧ c < 256) ∧ (p.size ≤ 2000 ∧ t.size ≤ 2000 ∧ m.size ≤ 2000 ∧ d.size ≤ 2000) ∧ (-9223372036854775808 ≤ n ∧ n ≤ 9223372036854775807)) ∨
       ((code = 20 ∨ code = 190) ∧ c = 0 ∧ p = ⟨#[]⟩ ∧ t = ⟨#[]⟩ ∧ m = ⟨#[]⟩ ∧ n = 0 ∧ d = ⟨#[]⟩ ∧ len = 0)) := by
  have bad : ∀ x : Int, (x = 20 ∨ x = 190) → ∃ c p t m n d len code, some (noCmd x) = some (c, p, t, m, n, d, len, errO code) ∧
      ((code = 0 ∧ goodB c p t m n d = true ∧ 0 ≤ len ∧ len ≤ s.size ∧ s.extract 0 len.toNat = textB (bodyR c p t m n d) ∧ (0 ≤ c ∧ c < 256) ∧ (p.size ≤ 2000 ∧ t.size ≤ 2000 ∧ m.size ≤ 2000 ∧ d.size ≤ 2000) ∧ (-9223372036854775808 ≤ n ∧ n ≤ 9223372036854775807)) ∨
       ((code = 20 ∨ code = 190) ∧ c = 0 ∧ p = ⟨#[]⟩ ∧ t = ⟨#[]⟩ ∧ m = ⟨#[]⟩ ∧ n = 0 ∧ d = ⟨#[]⟩ ∧ len = 0)) := by
    intro x hx
    refine ⟨0, ⟨#[]⟩, ⟨#[]⟩, ⟨#[]⟩, 0, ⟨#[]⟩, 0, x, ?_, .inr ⟨hx, rfl, rfl, rfl, rfl, rfl, rfl, rfl⟩⟩
    unfold noCmd errO
    rw [if_neg (by omega)]
  obtain ⟨T, a1, e1, hT, i1, P1, g1⟩ := text_own s 0 0 ⟨by omega, by omega⟩ (by omega) k (by omega) (s.size : Int) ⟨by omega, by omega⟩
  unfold cmd_decode.f
  rw [hT, Option.bind_some]
  by_cases h1 : e1 = 0
  · subst h1
    obtain ⟨-, -, hx⟩ := g1 rfl
    have hTz : T.size ≤ s.size := by omega
    rw [if_pos rfl]
    obtain ⟨b, a2, e2, hb, i2, hb01, g2⟩ := byte_own T 0 0 ⟨by omega, by omega⟩ (by omega)
    show ∃ c p t m n d len code, ((pack_Reader_Byte.f T 0 0).bind _) = _ ∧ _
    rw [hb, Option.bind_some]
    dsimp only
    rw [if_pos hb01, of_f b k (by omega), Option.bind_some]
    by_cases his : (formR b).2.2.2.2.2.2 = true
    · rw [if_pos his]
      obtain ⟨p, a3, e3, hp, i3, zp, np, g3⟩ := rdT_own (b != 16) T a2 e2 i2 (by omega) k (by omega)
      rw [hp, Option.bind_some]
      dsimp only
      obtain ⟨t, a4, e4, ht, i4, zt, nt, g4⟩ := rdT_own (formR b).1 T a3 e3 i3 (by omega) k (by omega)
      rw [ht, Option.bind_some]
      dsimp only
      obtain ⟨m, a5, e5, hm, i5, zm, nm, g5⟩ := rdT_own (formR b).2.1 T a4 e4 i4 (by omega) k (by omega)
      rw [hm, Option.bind_some]
      dsimp only
      obtain ⟨n, a6, e6, hn, i6, hnr, hn0, g6⟩ := rdN_own ((formR b).2.2.2.1 && (b == 15)) (formR b).2.2.2.1 T a5 e5 i5 (by omega) k (by omega)
      rw [hn, Option.bind_some]
      dsimp only
      obtain ⟨d, a7, e7, hd, i7, zd, nd, g7⟩ := rdT_own (formR b).2.2.1 T a6 e6 i6 (by omega) k (by omega)
      rw [hd, Option.bind_some]
      dsimp only
      obtain ⟨v, hv, hv0⟩ := end_own T a7 e7 i7 (by omega)
      rw [hv, Option.bind_some]
      dsimp only
      by_cases h8 : v = 0
      · obtain ⟨he7, ha7⟩ := hv0.1 h8
        rw [if_pos h8, check_f b p t m n d 2000 zp zt (by omega) k (by omega), Option.bind_some]
        by_cases hg : goodB b p t m n d = true
        · rw [if_pos hg]
          obtain ⟨q6, l7, x7⟩ := g7 he7
          obtain ⟨q5, l6, x6⟩ := g6 q6
          obtain ⟨q4, l5, x5⟩ := g5 q5
          obtain ⟨q3, l4, x4⟩ := g4 q4
          obtain ⟨q2, l3, x3⟩ := g3 q3
          obtain ⟨-, l2, x2⟩ := g2 q2
          have r2 : T.extract 0 a2.toNat = strOfNums [b] := x2
          have r3 := read_more r2 i2.h0 l3 i3.h1 x3
          have r4 := read_more r3 i3.h0 l4 i4.h1 x4
          have r5 := read_more r4 i4.h0 l5 i5.h1 x5
          have r6 := read_more r5 i5.h0 l6 i6.h1 x6
          have r7 := read_more r6 i6.h0 l7 i7.h1 x7
          have hall : T = bodyR b p t m n d := by
            have : T.extract 0 a7.toNat = T := by
              rw [ha7, Int.toNat_natCast]; exact ByteArray.extract_zero_size
            rw [this] at r7
            rw [r7]
            unfold bodyR
            simp only [putB_piece]
            have hb256 : b % 256 = b := by omega
            have hx : (!((formR b).2.2.2.1 && (b == 15)) && (formR b).2.2.2.1) = ((formR b).2.2.2.1 && (b != 15)) := by
              show _ = ((formR b).2.2.2.1 && !(b == 15))
              cases (formR b).2.2.2.1 <;> cases (b == 15) <;> rfl
            rw [hb256, hx]
            simp only [ByteArray.append_assoc]
          refine ⟨b, p, t, m, n, d, a1, 0, ?_, .inl ⟨rfl, hg, i1.h0, i1.h1, ?_, hb01, ⟨zp, zt, zm, zd⟩, hnr⟩⟩
          · have e1 : wrap64 ((s.size : Int) - a1) = (s.size : Int) - a1 := by have := i1.h0; have := i1.h1; unfold wrap64; omega
            have e2 : wrap64 ((s.size : Int) - ((s.size : Int) - a1)) = a1 := by have := i1.h0; have := i1.h1; unfold wrap64; omega
            show some (b, p, t, m, n, d, wrap64 ((s.size : Int) - wrap64 ((s.size : Int) - a1)), (none : Option Int)) = _
            rw [e1, e2]; rfl
          · rw [← hall]; exact hx
        · rw [if_neg hg]; exact bad 190 (.inr rfl)
      · rw [if_neg h8]; exact bad 190 (.inr rfl)
    · rw [if_neg his]; exact bad 190 (.inr rfl)
  · rw [if_neg h1]
    refine bad _ ?_
    dsimp only
    split
    · exact .inr rfl
    · exact .inl rfl
end Go.Proofs.YtofdpgcnconibaaGreatDoor.CmdP
