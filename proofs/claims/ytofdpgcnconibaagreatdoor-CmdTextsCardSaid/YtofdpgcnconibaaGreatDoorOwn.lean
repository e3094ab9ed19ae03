import Derived.Test.YtofdpgcnconibaaGreatDoorPAx23
import Derived.Test.YtofdpgcnconibaaGreatDoorPAx24
import Derived.Test.YtofdpgcnconibaaGreatDoorPAx25
import Derived.Test.YtofdpgcnconibaaGreatDoorSim
set_option linter.unusedVariables false
set_option linter.unusedSimpArgs false
/-! pack's reader alone: it answers; where there is no error, the bytes that were read are the value's. -/
namespace Go.Proofs.YtofdpgcnconibaaGreatDoor.OwnP
open Go.RowKit Go.Proofs.YtofdpgcnconibaaGreatDoor.PA Go.Proofs.YtofdpgcnconibaaGreatDoorW.PrintWords Go.Proofs.YtofdpgcnconibaaGreatDoorW.PrintLast Go.Proofs.YtofdpgcnconibaaGreatDoorW.PrintMore
open Go.Proofs.YtofdpgcnconibaaGreatDoor.Plain Go.Proofs.YtofdpgcnconibaaGreatDoor.PackP
set_option linter.unusedSectionVars false
structure In (s : ByteArray) (a : Int) : Prop where
  h0 : 0 ≤ a
  h1 : a ≤ s.size
def Own {α : Type} (s : ByteArray) (a e : Int) (w : α → ByteArray) (P : α → Prop) (p : Option (α × ByteArray × Int × Int)) : Prop :=
  ∃ v a' e', p = some (v, s, a', e') ∧ In s a' ∧ P v ∧ (e' = 0 → e = 0 ∧ a ≤ a' ∧ s.extract a.toNat a'.toNat = w v)
theorem take_err (s : ByteArray) (a e n : Int) (he : e ≠ 0) : pack_Reader_take.f s a e n = some (PackP.E, s, a, e) := by
  unfold pack_Reader_take.f pack_Reader_fails.f
  rw [Option.bind_some, if_pos (bne_iff_ne.mpr he)]
  rfl
section
variable (s : ByteArray) (a e : Int) (h : In s a) (h2 : s.size ≤ 4611686018427387904)
include h h2
theorem byte_own : Own s a e (fun v => strOfNums [v]) (fun v => 0 ≤ v ∧ v < 256) (pack_Reader_Byte.f s a e) := by
  have h0 := h.h0; have h1 := h.h1
  by_cases he : e = 0
  · subst he
    by_cases c : a < s.size
    · refine ⟨_, _, _, byte_ok s a h0 h1 h2 c, ⟨by omega, by omega⟩, bt_lt s a, fun _ => ⟨rfl, by omega, ?_⟩⟩
      have := extract_nums s a.toNat [bt s a] (by intro x hx; rw [List.mem_singleton] at hx; subst hx; exact bt_lt s a) (by simp only [List.length_singleton]; omega) (by
        intro j hj
        simp only [List.length_singleton] at hj
        have : j = 0 := by omega
        subst this
        simp only [List.getElem_cons_zero]
        congr 1; omega)
      refine Eq.trans ?_ this
      congr 1
      simp only [List.length_singleton]
      omega
    · exact ⟨0, a, 20, byte_end s a h0 h1 h2 (by omega), h, by omega, fun h => absurd h (by decide)⟩
  · refine ⟨0, a, e, ?_, h, by omega, fun h => absurd h he⟩
    unfold pack_Reader_Byte.f
    rw [take_err s a e 1 he, Option.bind_some]
    exact if_pos (by rw [ByteArray.toList_eq]; rfl)
theorem fixed_own (k : Nat) (hk : 8 < k) : Own s a e (fun v => strOfNums (fixedNums v)) (fun v => 0 ≤ v ∧ v < 18446744073709551616) (pack_Reader_Fixed.f k s a e) := by
  have h0 := h.h0; have h1 := h.h1
  by_cases he : e = 0
  · subst he
    by_cases c : 8 ≤ (s.size : Int) - a
    · have hr := fixedVal_range s a
      refine ⟨_, _, _, fixed_ok s a h0 h1 h2 k hk c, ⟨by omega, by omega⟩, hr, fun _ => ⟨rfl, by omega, ?_⟩⟩
      have := extract_nums s a.toNat (fixedNums (fixedVal s a)) (fixedNums_range _ hr.1 hr.2) (by show a.toNat + 8 ≤ s.size; omega) (by
        intro j hj
        have hj8 : j < 8 := hj
        have en : fixedNums (fixedVal s a) = [bt s a, bt s (a + 1), bt s (a + 2), bt s (a + 3), bt s (a + 4), bt s (a + 5), bt s (a + 6), bt s (a + 7)] := by
          have r0 := bt_lt s a; have r1 := bt_lt s (a + 1); have r2 := bt_lt s (a + 2); have r3 := bt_lt s (a + 3)
          have r4 := bt_lt s (a + 4); have r5 := bt_lt s (a + 5); have r6 := bt_lt s (a + 6); have r7 := bt_lt s (a + 7)
          unfold fixedVal
          generalize bt s a = x0 at *
          generalize bt s (a + 1) = x1 at *
          generalize bt s (a + 2) = x2 at *
          generalize bt s (a + 3) = x3 at *
          generalize bt s (a + 4) = x4 at *
          generalize bt s (a + 5) = x5 at *
          generalize bt s (a + 6) = x6 at *
          generalize bt s (a + 7) = x7 at *
          simp only [fixedNums, val, List.length_cons, List.length_nil, List.cons.injEq, and_true]
          refine ⟨?_, ?_, ?_, ?_, ?_, ?_, ?_, ?_⟩ <;> omega
        simp only [en]
        have hc : j = 0 ∨ j = 1 ∨ j = 2 ∨ j = 3 ∨ j = 4 ∨ j = 5 ∨ j = 6 ∨ j = 7 := by omega
        have ea : ((a.toNat : Nat) : Int) = a := by omega
        rcases hc with rfl | rfl | rfl | rfl | rfl | rfl | rfl | rfl <;> simp only [List.getElem_cons_zero, List.getElem_cons_succ] <;> congr 1 <;> omega)
      refine Eq.trans ?_ this
      congr 1
      show (a + 8).toNat = a.toNat + 8
      omega
    · exact ⟨0, a, 20, fixed_short s a h0 h1 h2 k (by omega) (by omega), h, by omega, fun h => absurd h (by decide)⟩
  · refine ⟨0, a, e, ?_, h, by omega, fun h => absurd h he⟩
    obtain ⟨k, rfl⟩ : ∃ q, k = q + 1 := ⟨k - 1, by omega⟩
    unfold pack_Reader_Fixed.f
    rw [take_err s a e 8 he, Option.bind_some, pack_Reader_Fixed.l0]
    exact if_neg (show ¬ ((0 : Int) < (PackP.E.size : Int)) by decide)
theorem short_own : Own s a e (fun v => strOfNums (shortNums 9 v)) (fun v => 0 ≤ v ∧ v < 18446744073709551616) (pack_Reader_Short.f s a e) := by
  have h0 := h.h0; have h1 := h.h1
  by_cases he : e = 0
  · subst he
    obtain ⟨n', at', e', hr, g⟩ := rsl_cases s a 9 0 0 (by omega)
    replace hr : rsl s a 10 0 0 = some (n', s, at', e') := hr
    have hp : pack_Reader_Short.f s a 0 = some (n', s, at', e') := by rw [short_ok s a h0 h1 h2, hr]
    rcases g with rfl | ⟨g0, rfl, rfl⟩
    · obtain ⟨r1, r2, r3, r4, r5⟩ := rsl_read s a h0 h1 n' at' hr
      exact ⟨n', at', 0, hp, ⟨by omega, by omega⟩, ⟨r1, r2⟩, fun _ => ⟨rfl, by omega, r5⟩⟩
    · exact ⟨0, at', e', hp, h, by omega, fun h => absurd h (by omega)⟩
  · refine ⟨0, a, e, ?_, h, by omega, fun h => absurd h he⟩
    unfold pack_Reader_Short.f; exact if_neg he
theorem text_own (k : Nat) (hk : 20 ≤ k) (most : Int) (hm : -9223372036854775808 ≤ most ∧ most ≤ 9223372036854775807) :
    Own s a e (fun T => strOfNums (shortNums 9 T.size) ++ T) (fun T => (T.size : Int) ≤ most ∨ T.size = 0) (pack_Reader_Text.f k s a e most) := by
  have h0 := h.h0; have h1 := h.h1
  by_cases he : e = 0
  · subst he
    obtain ⟨n', at', e', hr, g⟩ := rsl_cases s a 9 0 0 (by omega)
    replace hr : rsl s a 10 0 0 = some (n', s, at', e') := hr
    rcases g with rfl | ⟨g0, rfl, rfl⟩
    · obtain ⟨r1, r2, r3, r4, r5⟩ := rsl_read s a h0 h1 n' at' hr
      by_cases c1 : most < 0 ∨ n' > most
      · exact ⟨PackP.E, a, 22, text_long s a h0 h1 h2 k (by omega) most n' at' hm hr c1, h, .inr rfl, fun h => absurd h (by decide)⟩
      by_cases c2 : n' > s.size - at'
      · exact ⟨PackP.E, a, 20, text_short s a h0 h1 h2 k (by omega) most n' at' hm hr (by omega) c2, h, .inr rfl, fun h => absurd h (by decide)⟩
      have hx : (s.extract at'.toNat (at' + n').toNat).size = n'.toNat := by rw [ByteArray.size_extract]; omega
      refine ⟨s.extract at'.toNat (at' + n').toNat, at' + n', 0, text_ok s a h0 h1 h2 k (by omega) most n' at' hm hr (by omega) (by omega), ⟨by omega, by omega⟩, .inl (by rw [hx]; omega), fun _ => ⟨rfl, by omega, ?_⟩⟩
      show s.extract a.toNat (at' + n').toNat = strOfNums (shortNums 9 ((s.extract at'.toNat (at' + n').toNat).size : Int)) ++ s.extract at'.toNat (at' + n').toNat
      rw [hx, show ((n'.toNat : Nat) : Int) = n' by omega, ← r5]
      have z0 : (s.extract a.toNat (at' + n').toNat).size = (at' + n').toNat - a.toNat := by rw [ByteArray.size_extract]; omega
      have z1 : (s.extract a.toNat at'.toNat).size = at'.toNat - a.toNat := by rw [ByteArray.size_extract]; omega
      apply ba_ext _ _ (by rw [ByteArray.size_append, z0, z1, hx]; omega)
      intro i hi
      rw [bt_extract s _ _ i hi]
      rcases Nat.lt_or_ge i (at'.toNat - a.toNat) with hl | hl
      · rw [bt_append_left _ _ i (by omega), bt_extract s _ _ i (by omega)]
      · obtain ⟨j, rfl⟩ : ∃ j, i = (at'.toNat - a.toNat) + j := ⟨i - (at'.toNat - a.toNat), by omega⟩
        have := bt_append_right (s.extract a.toNat at'.toNat) (s.extract at'.toNat (at' + n').toNat) j (by omega)
        rw [z1] at this
        rw [this, bt_extract s _ _ j (by omega)]
        congr 1
        omega
    · exact ⟨PackP.E, at', e', text_err s at' h0 h1 h2 k most 0 at' e' hr (by omega), h, .inr rfl, fun h => absurd h (by omega)⟩
  · refine ⟨PackP.E, a, e, ?_, h, .inr rfl, fun h => absurd h he⟩
    unfold pack_Reader_Text.f pack_Reader_fails.f
    rw [Option.bind_some, if_pos (bne_iff_ne.mpr he)]
    rfl
theorem end_own : ∃ v, pack_Reader_End.f s a e = some (v, s, a, e) ∧ (v = 0 ↔ e = 0 ∧ a = s.size) := by
  have h0 := h.h0; have h1 := h.h1
  unfold pack_Reader_End.f
  by_cases he : e = 0
  · subst he
    by_cases c : a < s.size
    · exact ⟨22, by rw [if_pos ⟨rfl, c⟩], by omega⟩
    · exact ⟨0, by rw [if_neg (fun q => c q.2)], by omega⟩
  · exact ⟨e, by rw [if_neg (fun q => he q.1)], by omega⟩
end
end Go.Proofs.YtofdpgcnconibaaGreatDoor.OwnP
