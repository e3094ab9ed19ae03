-- WRITTEN BY a program of this session (pp.sh)
import Derived.Test.YtppkdmocbhodpaaPAx0
namespace Go.Proofs.Ytppkdmocbhodpaa.PA
open Go.RowKit Go.Proofs.YtppkdmocbhodpaaW.PrintWords Go.Proofs.YtppkdmocbhodpaaW.PrintLast Go.Proofs.YtppkdmocbhodpaaW.PrintMore Go.Proofs.Ytppkdmocbhodpaa.Plain
attribute [local go_sem] max2_int min2_int max_two min_two max_three min_three max_four min_four   -- for this text's walks alone
set_option linter.unusedVariables false
set_option linter.unusedSimpArgs false

/-! ### strings_Contains: function 37, by hand -/
/-- strings.Contains, asked for one byte. -/
def strings_Contains.f (a0 a1 : ByteArray) : Option Bool := if a1.size = 1 then some (decide (0 ≤ Lib.indexByte a0.data.toList (a1.data.getD 0 0))) else none
theorem strings_Contains.calls (a0 a1 : ByteArray) (r : Bool) (w : World) (h : strings_Contains.f a0 a1 = some r) :
    Calls Try.prog 37 #[.string a0, .string a1] w fun e w' => e = .returned (.bool r) ∧ Drawn0 w w' := by
  unfold strings_Contains.f at h
  split at h
  case isFalse => cases h
  case isTrue hh =>
  obtain rfl := Option.some.inj h
  obtain ⟨⟨l⟩⟩ := a1
  obtain ⟨c, rfl⟩ : ∃ c, l = [c] := List.length_eq_one_iff.mp hh
  exact (Try.strings_Contains_one a0 c w).mono fun e w' ⟨he, hw⟩ => ⟨he, ⟨0, hw⟩⟩


/-! ### path_Target: function 24 -/
def path_Target.f (a0 : ByteArray) : Option (Bool) := if a0.toList = ([] : List UInt8) then (some false) else (if (a0.size : Int) ≤ 100 then ((strings_Contains.f a0 (⟨#[0]⟩ : ByteArray)).bind fun t101 => (some (!t101))) else (some false))
set_option maxHeartbeats 8000000 in
set_option maxRecDepth 100000 in
theorem path_Target.calls (a0 : ByteArray) (r : Bool) (w : World) (h : path_Target.f a0 = some r) :
  Calls Try.prog 24 #[.string a0] w fun e w' => e = .returned (.bool r) ∧ Drawn0 w w' := by
 have H : (if a0.toList = ([] : List UInt8) then (some false) else (if (a0.size : Int) ≤ 100 then ((strings_Contains.f a0 (⟨#[0]⟩ : ByteArray)).bind fun t101 => (some (!t101))) else (some false))) = some r := h
 clear h
 by_cases c2 : a0.toList = ([] : List UInt8)
 ·rw [if_pos c2] at H
  have c2b0 : (a0.toList == ([] : List UInt8)) = true := beq_iff_eq.mpr c2
  have c2b1 : (a0.toList != ([] : List UInt8)) = false := bne_eq_false_iff_eq.mpr c2
  clear c2
  obtain rfl := Option.some.inj H
  go_enter Try.func24, Try.ntmps24
  go_wp2
  go_ret
  exact ⟨by first | rfl | (simp; done) | (simp [*]; done), by repeat (first | exact Drawn0.refl _ | apply Drawn0.step)⟩
 ·rw [if_neg c2] at H
  have c2b0 : (a0.toList == ([] : List UInt8)) = false := beq_eq_false_iff_ne.mpr c2
  have c2b1 : (a0.toList != ([] : List UInt8)) = true := bne_iff_ne.mpr c2
  by_cases c3 : (a0.size : Int) ≤ 100
  ·rw [if_pos c3] at H
   have c3b0 : decide ((a0.size : Int) ≤ 100) = true := decide_eq_true c3
   have c3b1 : decide (a0.size ≤ 100) = true := decide_eq_true (by omega)
   clear c3
   replace H := Option.bind_eq_some_iff.mp H
   obtain ⟨t101, A40, H⟩ := H
   replace H : (some (!t101)) = some r := H
   have A4 := Aside0.mk A40
   clear A40
   obtain rfl := Option.some.inj H
   go_enter Try.func24, Try.ntmps24
   go_wp2_with (first | (go_at_call 37; (with_reducible refine (strings_Contains.calls a0 (⟨#[0]⟩ : ByteArray) t101 _ A4.out).mono ?_); rintro e w' ⟨rfl, ⟨nd, rfl⟩⟩))
   go_ret
   exact ⟨by first | rfl | (simp; done) | (simp [*]; done), by repeat (first | exact Drawn0.refl _ | apply Drawn0.step)⟩
  ·rw [if_neg c3] at H
   have c3b0 : decide ((a0.size : Int) ≤ 100) = false := decide_eq_false c3
   have c3b1 : decide (a0.size ≤ 100) = false := decide_eq_false (by omega)
   clear c3
   obtain rfl := Option.some.inj H
   go_enter Try.func24, Try.ntmps24
   go_wp2
   go_ret
   exact ⟨by first | rfl | (simp; done) | (simp [*]; done), by repeat (first | exact Drawn0.refl _ | apply Drawn0.step)⟩

end Go.Proofs.Ytppkdmocbhodpaa.PA
