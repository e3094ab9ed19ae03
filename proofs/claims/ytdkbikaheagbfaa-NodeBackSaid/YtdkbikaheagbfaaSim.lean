import Derived.Test.YtdkbikaheagbfaaPAx17
import Derived.Test.YtdkbikaheagbfaaPAx18
import Derived.Test.YtdkbikaheagbfaaPAx19
import Derived.Test.YtdkbikaheagbfaaPAx20
import Derived.Test.YtdkbikaheagbfaaPAx3
import Derived.Test.YtdkbikaheagbfaaPAx4
import Derived.Test.YtdkbikaheagbfaaPAx5
import Derived.Test.YtdkbikaheagbfaaPAx6
import Derived.Test.YtdkbikaheagbfaaPAx7
import Derived.Test.YtdkbikaheagbfaaPackAt
import Derived.Test.YtdkbikaheagbfaaBytes
/-! pack's reader and the document's one answer alike: what is left to the document's reader is what stands behind the place of pack's. -/
namespace Go.Proofs.Ytdkbikaheagbfaa.SimP
open Go.RowKit Go.Proofs.Ytdkbikaheagbfaa.PA Go.Proofs.YtdkbikaheagbfaaW.PrintWords Go.Proofs.YtdkbikaheagbfaaW.PrintLast Go.Proofs.YtdkbikaheagbfaaW.PrintMore
open Go.Proofs.Ytdkbikaheagbfaa.Plain Go.Proofs.Ytdkbikaheagbfaa.PackP

set_option linter.unusedSectionVars false
structure Sim (s : ByteArray) (a : Int) (R : ByteArray) : Prop where
  h0 : 0 ≤ a
  h1 : a ≤ s.size
  hR : R = s.extract a.toNat s.size
theorem Sim.size {s : ByteArray} {a : Int} {R : ByteArray} (h : Sim s a R) : a + (R.size : Int) = (s.size : Int) := by
  have h0 := h.h0; have h1 := h.h1
  rw [h.hR, ByteArray.size_extract]; omega
theorem Sim.bt {s : ByteArray} {a : Int} {R : ByteArray} (h : Sim s a R) (j : Nat) (hj : j < R.size) : bt R (j : Int) = bt s (a + j) := by
  have h0 := h.h0
  have hR := h.hR
  subst hR
  rw [bt_extract s _ _ j hj]
  congr 1
  omega
theorem Sim.start (s : ByteArray) : Sim s 0 s := ⟨by omega, by omega, by
  show s = s.extract 0 s.size
  rw [ByteArray.extract_zero_size]⟩
theorem Sim.go {s : ByteArray} {a : Int} {R : ByteArray} (h : Sim s a R) (d : Nat) (hd : d ≤ R.size) : Sim s (a + d) (R.extract d R.size) := by
  have h0 := h.h0; have h1 := h.h1; have hz := h.size
  refine ⟨by omega, by omega, ?_⟩
  have z1 : (R.extract d R.size).size = R.size - d := by rw [ByteArray.size_extract]; omega
  have z2 : (s.extract (a + d).toNat s.size).size = R.size - d := by rw [ByteArray.size_extract]; omega
  apply ba_ext _ _ (by omega)
  intro i hi
  rw [bt_extract R d R.size i hi, bt_extract s (a + d).toNat s.size i (by omega), h.bt (d + i) (by omega)]
  congr 1
  omega
/-- Both readers answer alike: the same value, the same error; where there is none, the bytes that were read are the value's. -/
def Both {α : Type} (s : ByteArray) (a e : Int) (w : α → ByteArray) (P : α → Prop) (p : Option (α × ByteArray × Int × Int)) (q : Option (α × ByteArray × Int)) : Prop :=
  ∃ v a' e' R', p = some (v, s, a', e') ∧ q = some (v, R', e') ∧ Sim s a' R' ∧ P v ∧ (e' = 0 → e = 0 ∧ a ≤ a' ∧ s.extract a.toNat a'.toNat = w v)
theorem take_err (s : ByteArray) (a e n : Int) (he : e ≠ 0) : pack_Reader_take.f s a e n = some (PackP.E, s, a, e) := by
  unfold pack_Reader_take.f pack_Reader_fails.f
  rw [Option.bind_some, if_pos (bne_iff_ne.mpr he)]
  rfl
section
variable (k : Nat) (R : ByteArray) (n : Int) (i : Nat) (hi : i < 10) (hR : R.size ≤ 4611686018427387904) (hn0 : 0 ≤ n) (hn : n < 128 ^ i)
theorem scan_end (hi : i < 10) (hz : R.size ≤ i) : coppiceref02_scan.l0 (k + 1) R n (i : Int) = some (0, 0, 20) := by
  rw [coppiceref02_scan.l0, if_pos (show (i : Int) < 10 by omega), if_pos (show (i : Int) ≥ (R.size : Int) by omega)]
include hi hR in
theorem scan_in (hz : i < R.size) : coppiceref02_scan.l0 (k + 1) R n (i : Int) = coppiceref02_scan.j1 k R n (i : Int) (bt R (i : Int)) (decide (i = 9 ∧ bt R (i : Int) > 1)) := by
  rw [coppiceref02_scan.l0, if_pos (show (i : Int) < 10 by omega), if_neg (show ¬ (i : Int) ≥ (R.size : Int) by omega), if_pos (show 0 ≤ (i : Int) by omega), if_pos (show (i : Int) < (R.size : Int) by omega)]
  by_cases c : (i : Int) = 9
  · rw [if_pos c, show decide (i = 9 ∧ bt R (i : Int) > 1) = decide (bt R (i : Int) > 1) from decide_eq_decide.2 (by omega)]
  · rw [if_neg c, decide_eq_false (by omega)]
include hi in
theorem acc_ok (b : Int) (hb : 0 ≤ b ∧ b < 256) (h9 : i = 9 → b ≤ 1) (hn0 : 0 ≤ n) (hn : n < 128 ^ i) : Go.bits .or .u64 n (shl .u64 (IntKind.u64.wrap (Go.bits .and .u8 b 127)) (wrap64 (7 * (i : Int)))) = acc7 n b (i : Int) := by
  rw [and127 _ hb.1 hb.2, wrap_u64, Int.emod_eq_of_lt (b := 18446744073709551616) (by omega) (by omega), show wrap64 (7 * (i : Int)) = 7 * (i : Int) by unfold wrap64; omega]
  exact acc7_of n b (i : Int) (by omega) (by omega) hn0 (by simpa using hn) hb.1 hb.2 (by intro h; exact h9 (by omega))
include hi in
theorem scan_j (b : Int) (hb : 0 ≤ b ∧ b < 256) (hn0 : 0 ≤ n) (hn : n < 128 ^ i) :
    coppiceref02_scan.j1 (k + 1) R n (i : Int) b (decide (i = 9 ∧ b > 1)) = if (i = 9 ∧ b > 1) ∨ (b = 0 ∧ 0 < i) then some (0, 0, 21) else if b < 128 then some (acc7 n b (i : Int), (i : Int) + 1, 0) else coppiceref02_scan.l0 k R (acc7 n b (i : Int)) ((i + 1 : Nat) : Int) := by
  have e7 : wrap64 (7 * (i : Int)) = 7 * (i : Int) := by unfold wrap64; omega
  have e1 : wrap64 ((i : Int) + 1) = (i : Int) + 1 := by unfold wrap64; omega
  rw [coppiceref02_scan.j1]
  by_cases c1 : i = 9 ∧ b > 1
  · rw [if_pos (decide_eq_true c1), if_pos (.inl c1)]
  have hacc := acc_ok n i hi b hb (by intro h; omega) hn0 hn
  rw [if_neg (show ¬ (decide (i = 9 ∧ b > 1) = true) by rw [decide_eq_true_eq]; exact c1), hacc, e1, e7, if_pos (show 0 ≤ 7 * (i : Int) by omega)]
  by_cases c2 : b = 0
  · rw [if_pos (show b < 128 by omega), if_pos c2]
    by_cases c3 : 0 < i
    · rw [if_pos (show (i : Int) > 0 by omega), if_pos (.inr ⟨c2, c3⟩)]
    · rw [if_neg (show ¬ (i : Int) > 0 by omega), if_neg (by omega), if_pos (show b < 128 by omega)]
  · rw [if_neg (show ¬ ((i = 9 ∧ b > 1) ∨ (b = 0 ∧ 0 < i)) by omega)]
    by_cases c4 : b < 128
    · rw [if_pos c4, if_neg c2, if_pos c4]
    · rw [if_neg c4, if_neg c4]
      rfl
end
section
variable (s : ByteArray) (a e : Int) (R : ByteArray) (h : Sim s a R) (h2 : s.size ≤ 4611686018427387904)
include h h2
theorem byte_both : Both s a e (fun v => strOfNums [v]) (fun v => 0 ≤ v ∧ v < 256) (pack_Reader_Byte.f s a e) (coppiceref02_Reader_Byte.f R e) := by
  have h0 := h.h0; have h1 := h.h1; have hz := h.size
  by_cases he : e = 0
  · subst he
    by_cases c : a < s.size
    · have hb := h.bt 0 (by omega)
      have hR : ¬ R.toList = ([] : List UInt8) := by
        intro e1
        have := congrArg List.length e1
        rw [ByteArray.toList_eq, Array.length_toList] at this
        have e2 : R.data.size = R.size := rfl
        simp only [List.length_nil] at this
        omega
      refine ⟨_, _, _, _, byte_ok s a h0 h1 h2 c, ?_, h.go 1 (by omega), bt_lt s a, fun _ => ⟨rfl, by omega, ?_⟩⟩
      · unfold coppiceref02_Reader_Byte.f
        rw [if_pos rfl, if_neg hR, if_pos (by omega), if_pos (by omega)]
        rw [show bt R 0 = bt s a by rw [show (0 : Int) = ((0 : Nat) : Int) from rfl, hb]; congr 1; omega]
      · have := extract_nums s a.toNat [bt s a] (by intro x hx; rw [List.mem_singleton] at hx; subst hx; exact bt_lt s a) (by simp only [List.length_singleton]; omega) (by
          intro j hj
          simp only [List.length_singleton] at hj
          have : j = 0 := by omega
          subst this
          simp only [List.getElem_cons_zero]
          congr 1; omega)
        refine Eq.trans ?_ this
        congr 1
        simp only [List.length_singleton]
        omega
    · have c' : a = s.size := by omega
      have hR : R.toList = ([] : List UInt8) := by
        rw [ByteArray.toList_eq]
        exact List.eq_nil_of_length_eq_zero (by rw [Array.length_toList]; show R.size = 0; omega)
      refine ⟨0, a, 20, R, byte_end s a h0 h1 h2 c', ?_, h, by omega, fun h => absurd h (by decide)⟩
      unfold coppiceref02_Reader_Byte.f
      rw [if_pos rfl, if_pos hR]
  · refine ⟨0, a, e, R, ?_, ?_, h, by omega, fun h => absurd h he⟩
    · unfold pack_Reader_Byte.f
      rw [take_err s a e 1 he, Option.bind_some]
      exact if_pos (by rw [ByteArray.toList_eq]; rfl)
    · unfold coppiceref02_Reader_Byte.f
      exact if_neg he
theorem scan_step : ∀ (q i : Nat) (n : Int) (k : Nat), q + i = 9 → 2 * q + 2 ≤ k → 0 ≤ n → n < 128 ^ i → i ≤ R.size →
    ∃ (n' at' e : Int), rsl s a (q + 1) (i : Int) n = some (n', s, at', e) ∧
      ((e = 0 ∧ coppiceref02_scan.l0 k R n (i : Int) = some (n', at' - a, 0) ∧ a + i < at' ∧ at' ≤ s.size) ∨ (e ≠ 0 ∧ n' = 0 ∧ at' = a ∧ coppiceref02_scan.l0 k R n (i : Int) = some (0, 0, e))) := by
  have h0 := h.h0; have h1 := h.h1; have hz := h.size
  intro q
  induction q with
  | zero =>
    intro i n k hi hk hn0 hn hl
    obtain ⟨k, rfl⟩ : ∃ m, k = m + 2 := ⟨k - 2, by omega⟩
    by_cases c1 : a + (i : Int) = (s.size : Int)
    · exact ⟨0, a, 20, by rw [rsl, if_pos c1], .inr ⟨by decide, rfl, rfl, scan_end (k + 1) R n i (by omega) (by omega)⟩⟩
    have hb := bt_lt s (a + (i : Int))
    have hj := scan_j k R n i (by omega) (bt s (a + (i : Int))) hb hn0 hn
    have hin := scan_in (k + 1) R n i (by omega) (by omega) (by omega)
    rw [h.bt i (by omega)] at hin
    rw [hin, hj]
    by_cases c2 : (i = 9 ∧ bt s (a + (i : Int)) > 1) ∨ (bt s (a + (i : Int)) = 0 ∧ 0 < i)
    · exact ⟨0, a, 21, by rw [rsl, if_neg c1, if_pos (show ((i : Int) = 9 ∧ 1 < bt s (a + (i : Int))) ∨ (bt s (a + (i : Int)) = 0 ∧ 0 < (i : Int)) by omega)], .inr ⟨by decide, rfl, rfl, if_pos c2⟩⟩
    refine ⟨acc7 n (bt s (a + (i : Int))) (i : Int), a + (i : Int) + 1, 0, by rw [rsl, if_neg c1, if_neg (show ¬ (((i : Int) = 9 ∧ 1 < bt s (a + (i : Int))) ∨ (bt s (a + (i : Int)) = 0 ∧ 0 < (i : Int))) by omega), if_pos (show bt s (a + (i : Int)) < 128 by omega)], .inl ⟨rfl, ?_, by omega, by omega⟩⟩
    rw [if_neg c2, if_pos (show bt s (a + (i : Int)) < 128 by omega), show a + (i : Int) + 1 - a = (i : Int) + 1 by omega]
  | succ q ih =>
    intro i n k hi hk hn0 hn hl
    obtain ⟨k, rfl⟩ : ∃ m, k = m + 2 := ⟨k - 2, by omega⟩
    by_cases c1 : a + (i : Int) = (s.size : Int)
    · exact ⟨0, a, 20, by rw [rsl, if_pos c1], .inr ⟨by decide, rfl, rfl, scan_end (k + 1) R n i (by omega) (by omega)⟩⟩
    have hb := bt_lt s (a + (i : Int))
    have hj := scan_j k R n i (by omega) (bt s (a + (i : Int))) hb hn0 hn
    have hin := scan_in (k + 1) R n i (by omega) (by omega) (by omega)
    rw [h.bt i (by omega)] at hin
    rw [hin, hj]
    by_cases c2 : (i = 9 ∧ bt s (a + (i : Int)) > 1) ∨ (bt s (a + (i : Int)) = 0 ∧ 0 < i)
    · exact ⟨0, a, 21, by rw [rsl, if_neg c1, if_pos (show ((i : Int) = 9 ∧ 1 < bt s (a + (i : Int))) ∨ (bt s (a + (i : Int)) = 0 ∧ 0 < (i : Int)) by omega)], .inr ⟨by decide, rfl, rfl, if_pos c2⟩⟩
    rw [if_neg c2]
    by_cases c4 : bt s (a + (i : Int)) < 128
    · refine ⟨acc7 n (bt s (a + (i : Int))) (i : Int), a + (i : Int) + 1, 0, by rw [rsl, if_neg c1, if_neg (show ¬ (((i : Int) = 9 ∧ 1 < bt s (a + (i : Int))) ∨ (bt s (a + (i : Int)) = 0 ∧ 0 < (i : Int))) by omega), if_pos c4], .inl ⟨rfl, ?_, by omega, by omega⟩⟩
      rw [if_pos c4, show a + (i : Int) + 1 - a = (i : Int) + 1 by omega]
    · rw [if_neg c4]
      have hlt := acc7_lt n (bt s (a + (i : Int))) (i : Int) (by omega) hn0 (by simpa using hn)
      have hcast : (i : Int) + 1 = ((i + 1 : Nat) : Int) := by omega
      rw [hcast, Int.toNat_natCast] at hlt
      obtain ⟨n', at', e, g1, g2⟩ := ih (i + 1) (acc7 n (bt s (a + (i : Int))) (i : Int)) k (by omega) (by omega) hlt.1 hlt.2 (by omega)
      refine ⟨n', at', e, by rw [rsl, if_neg c1, if_neg (show ¬ (((i : Int) = 9 ∧ 1 < bt s (a + (i : Int))) ∨ (bt s (a + (i : Int)) = 0 ∧ 0 < (i : Int))) by omega), if_neg c4, hcast, g1], ?_⟩
      rcases g2 with ⟨p1, p2, p3, p4⟩ | g2
      · exact .inl ⟨p1, p2, by omega, p4⟩
      · exact .inr g2
theorem scan_ok (k : Nat) (hk : 20 ≤ k) : ∃ (n' at' e : Int), rsl s a 10 0 0 = some (n', s, at', e) ∧
      ((e = 0 ∧ coppiceref02_scan.f k R = some (n', at' - a, 0) ∧ a < at' ∧ at' ≤ s.size) ∨ (e ≠ 0 ∧ n' = 0 ∧ at' = a ∧ coppiceref02_scan.f k R = some (0, 0, e))) := by
  obtain ⟨n', at', e, g1, g2⟩ := scan_step s a R h h2 9 0 0 k (by omega) (by omega) (by omega) (by decide) (by omega)
  refine ⟨n', at', e, g1, ?_⟩
  rcases g2 with ⟨p1, p2, p3, p4⟩ | g2
  · exact .inl ⟨p1, p2, by omega, p4⟩
  · exact .inr g2
theorem short_both (k : Nat) (hk : 20 ≤ k) : Both s a e (fun v => strOfNums (shortNums 9 v)) (fun v => 0 ≤ v ∧ v < 18446744073709551616) (pack_Reader_Short.f s a e) (coppiceref02_Reader_Short.f k R e) := by
  have h0 := h.h0; have h1 := h.h1; have hz := h.size
  by_cases he : e = 0
  · subst he
    obtain ⟨n', at', e', hr, g⟩ := scan_ok s a R h h2 k hk
    have hp : pack_Reader_Short.f s a 0 = some (n', s, at', e') := by rw [short_ok s a h0 h1 h2, hr]
    rcases g with ⟨rfl, g, g1, g2⟩ | ⟨g0, rfl, rfl, g⟩
    · obtain ⟨r1, r2, r3, r4, r5⟩ := rsl_read s a h0 h1 n' at' hr
      refine ⟨n', at', 0, R.extract (at' - a).toNat R.size, hp, ?_, ?_, ⟨r1, r2⟩, fun _ => ⟨rfl, by omega, r5⟩⟩
      · unfold coppiceref02_Reader_Short.f
        rw [if_pos rfl, g, Option.bind_some, if_pos (show 0 ≤ at' - a by omega), if_pos (show at' - a ≤ (R.size : Int) by omega)]
      · have := h.go (at' - a).toNat (by omega)
        rwa [show a + (((at' - a).toNat : Nat) : Int) = at' by omega] at this
    · refine ⟨0, at', e', R, hp, ?_, h, by omega, fun h => absurd h g0⟩
      unfold coppiceref02_Reader_Short.f
      rw [if_pos rfl, g, Option.bind_some, if_pos (show (0 : Int) ≤ 0 by decide), if_pos (show (0 : Int) ≤ (R.size : Int) by omega)]
      rw [show ((0 : Int).toNat) = 0 from rfl, ByteArray.extract_zero_size]
  · refine ⟨0, a, e, R, ?_, ?_, h, by omega, fun h => absurd h he⟩
    · unfold pack_Reader_Short.f; exact if_neg he
    · unfold coppiceref02_Reader_Short.f; exact if_neg he
theorem rtext_err (k : Nat) (x5 x6 e1 : Int) (he : e1 ≠ 0) : coppiceref02_Reader_Text.j1 (k + 2) x5 x6 e1 R 0 = some (⟨#[]⟩, R, e1) := by
  rw [coppiceref02_Reader_Text.j1, if_neg he, coppiceref02_Reader_Text.j2, if_neg (by decide), if_neg he]
theorem text_both (k : Nat) (hk : 20 ≤ k) (most : Int) (hm : -9223372036854775808 ≤ most ∧ most ≤ 9223372036854775807) :
    Both s a e (fun T => strOfNums (shortNums 9 T.size) ++ T) (fun T => (T.size : Int) ≤ most ∨ T.size = 0) (pack_Reader_Text.f k s a e most) (coppiceref02_Reader_Text.f k R e most) := by
  have h0 := h.h0; have h1 := h.h1; have hz := h.size
  have E0 : PackP.E.size = 0 := rfl
  by_cases he : e = 0
  · subst he
    obtain ⟨n', at', e', hr, g⟩ := scan_ok s a R h h2 k hk
    rcases g with ⟨rfl, g, g1, g2⟩ | ⟨g0, rfl, rfl, g⟩
    · obtain ⟨r1, r2, r3, r4, r5⟩ := rsl_read s a h0 h1 n' at' hr
      obtain ⟨k, rfl⟩ : ∃ q, k = q + 3 := ⟨k - 3, by omega⟩
      have hf : coppiceref02_Reader_Text.f (k + 3) R 0 most = coppiceref02_Reader_Text.j0 (k + 3) n' (at' - a) 0 (decide (most < 0 ∨ n' > most)) R 0 := by
        unfold coppiceref02_Reader_Text.f
        rw [if_pos rfl, g, Option.bind_some, if_pos rfl]
        by_cases c : most < 0
        · rw [if_pos c, decide_eq_true (by omega)]
        · rw [if_neg c, u64 most (by omega) (by omega), show decide (most < 0 ∨ n' > most) = decide (n' > most) from decide_eq_decide.2 (by omega)]
      by_cases c1 : most < 0 ∨ n' > most
      · refine ⟨PackP.E, a, 22, R, text_long s a h0 h1 h2 (k + 3) (by omega) most n' at' hm hr c1, ?_, h, .inr rfl, fun h => absurd h (by decide)⟩
        rw [hf, decide_eq_true c1, coppiceref02_Reader_Text.j0, if_pos rfl]
        exact rtext_err s a R h h2 k _ _ 22 (by decide)
      have hU : IntKind.u64.wrap (wrap64 ((R.size : Int) - (at' - a))) = (s.size : Int) - at' := by
        rw [w64 _ (by omega) (by omega), u64 _ (by omega) (by omega)]; omega
      by_cases c2 : n' > s.size - at'
      · refine ⟨PackP.E, a, 20, R, text_short s a h0 h1 h2 (k + 3) (by omega) most n' at' hm hr (by omega) c2, ?_, h, .inr rfl, fun h => absurd h (by decide)⟩
        rw [hf, decide_eq_false c1, coppiceref02_Reader_Text.j0, if_neg (by decide), coppiceref02_Reader_Text.j1, if_pos rfl, hU, decide_eq_true c2, coppiceref02_Reader_Text.j2, if_pos rfl]
        rfl
      have hx : (s.extract at'.toNat (at' + n').toNat).size = n'.toNat := by rw [ByteArray.size_extract]; omega
      refine ⟨s.extract at'.toNat (at' + n').toNat, at' + n', 0, R.extract (at' - a + n').toNat R.size, text_ok s a h0 h1 h2 (k + 3) (by omega) most n' at' hm hr (by omega) (by omega), ?_, ?_, .inl (by rw [hx]; omega), fun _ => ⟨rfl, by omega, ?_⟩⟩
      · rw [hf, decide_eq_false c1, coppiceref02_Reader_Text.j0, if_neg (by decide), coppiceref02_Reader_Text.j1, if_pos rfl, hU, decide_eq_false c2, coppiceref02_Reader_Text.j2, if_neg (by decide), if_pos rfl,
          w64 n' (by omega) (by omega), w64 (at' - a + n') (by omega) (by omega), if_pos (show 0 ≤ at' - a by omega), if_pos (show at' - a ≤ at' - a + n' by omega), if_pos (show at' - a + n' ≤ (R.size : Int) by omega), if_pos (show 0 ≤ at' - a + n' by omega)]
        congr 2
        have z1 : (R.extract (at' - a).toNat (at' - a + n').toNat).size = n'.toNat := by rw [ByteArray.size_extract]; omega
        apply ba_ext _ _ (by omega)
        intro i hi
        rw [bt_extract R _ _ i hi, bt_extract s _ _ i (by omega), h.bt _ (by omega)]
        congr 1
        omega
      · have := h.go (at' - a + n').toNat (by omega)
        rwa [show a + (((at' - a + n').toNat : Nat) : Int) = at' + n' by omega] at this
      · show s.extract a.toNat (at' + n').toNat = strOfNums (shortNums 9 ((s.extract at'.toNat (at' + n').toNat).size : Int)) ++ s.extract at'.toNat (at' + n').toNat
        rw [hx, show ((n'.toNat : Nat) : Int) = n' by omega, ← r5]
        have z0 : (s.extract a.toNat (at' + n').toNat).size = (at' + n').toNat - a.toNat := by rw [ByteArray.size_extract]; omega
        have z1 : (s.extract a.toNat at'.toNat).size = at'.toNat - a.toNat := by rw [ByteArray.size_extract]; omega
        apply ba_ext _ _ (by rw [ByteArray.size_append, z0, z1, hx]; omega)
        intro i hi
        rw [bt_extract s _ _ i hi]
        rcases Nat.lt_or_ge i (at'.toNat - a.toNat) with hl | hl
        · rw [bt_append_left _ _ i (by omega), bt_extract s _ _ i (by omega)]
        · obtain ⟨j, rfl⟩ : ∃ j, i = (at'.toNat - a.toNat) + j := ⟨i - (at'.toNat - a.toNat), by omega⟩
          have := bt_append_right (s.extract a.toNat at'.toNat) (s.extract at'.toNat (at' + n').toNat) j (by omega)
          rw [z1] at this
          rw [this, bt_extract s _ _ j (by omega)]
          congr 1
          omega
    · refine ⟨PackP.E, at', e', R, text_err s at' h0 h1 h2 k most 0 at' e' hr g0, ?_, h, .inr rfl, fun h => absurd h g0⟩
      obtain ⟨k, rfl⟩ : ∃ q, k = q + 3 := ⟨k - 3, by omega⟩
      unfold coppiceref02_Reader_Text.f
      rw [if_pos rfl, g, Option.bind_some, if_neg g0, coppiceref02_Reader_Text.j0, if_neg (by decide)]
      exact rtext_err s at' R h h2 k _ _ e' g0
  · refine ⟨PackP.E, a, e, R, ?_, ?_, h, .inr rfl, fun h => absurd h he⟩
    · unfold pack_Reader_Text.f pack_Reader_fails.f
      rw [Option.bind_some, if_pos (bne_iff_ne.mpr he)]
      rfl
    · unfold coppiceref02_Reader_Text.f
      exact if_neg he
theorem end_both : ∃ v, pack_Reader_End.f s a e = some (v, s, a, e) ∧ coppiceref02_Reader_End.f R e = some (v, R, e) ∧ (v = 0 ↔ e = 0 ∧ a = s.size) := by
  have h0 := h.h0; have h1 := h.h1; have hz := h.size
  unfold pack_Reader_End.f coppiceref02_Reader_End.f
  by_cases he : e = 0
  · subst he
    by_cases c : a < s.size
    · have hR : ¬ R.toList = ([] : List UInt8) := by
        intro e1
        have := congrArg List.length e1
        rw [ByteArray.toList_eq, Array.length_toList] at this
        have e2 : R.data.size = R.size := rfl
        simp only [List.length_nil] at this
        omega
      exact ⟨22, by rw [if_pos ⟨rfl, c⟩], by rw [if_pos rfl, if_neg hR], by omega⟩
    · have hR : R.toList = ([] : List UInt8) := by
        rw [ByteArray.toList_eq]
        exact List.eq_nil_of_length_eq_zero (by rw [Array.length_toList]; show R.size = 0; omega)
      exact ⟨0, by rw [if_neg (fun q => c q.2)], by rw [if_pos rfl, if_pos hR], by omega⟩
  · exact ⟨e, by rw [if_neg (fun q => he q.1)], by rw [if_neg he], by omega⟩
end
end Go.Proofs.Ytdkbikaheagbfaa.SimP
