-- WRITTEN BY a program of this session (pp.sh)
import Derived.Test.YtdkbikaheagbfaaPTx0
namespace Go.Proofs.Ytdkbikaheagbfaa.PT
open Go.RowKit Go.Proofs.YtdkbikaheagbfaaW.PrintWords Go.Proofs.YtdkbikaheagbfaaW.PrintLast Go.Proofs.YtdkbikaheagbfaaW.PrintMore Go.Proofs.Ytdkbikaheagbfaa.Plain
attribute [local go_sem] max2_int min2_int max_two min_two max_three min_three max_four min_four binOp_leq_s binOp_gtr_s binOp_geq_s lit_byte   -- for this text's walks alone
set_option linter.unusedVariables false
set_option linter.unusedSimpArgs false

/-! ### pack_Short: function 49, by hand -/
def pack_Short.f (a0 : Int) : Option ByteArray := if 0 ≤ a0 ∧ a0 < 18446744073709551616 then some (strOfNums (shortNums 9 a0)) else none
set_option maxHeartbeats 4000000 in
set_option maxRecDepth 100000 in
theorem pack_Short.calls (a0 : Int) (r : ByteArray) (w : World) (h : pack_Short.f a0 = some r) :
    Calls Try.prog 49 #[.int .u64 a0] w fun e w' => e = .returned (.string r) ∧ Below w.heap.size w w' := by
  unfold pack_Short.f at h
  split at h
  case isFalse => cases h
  case isTrue hh =>
  obtain ⟨h0, h1⟩ := hh
  obtain rfl := Option.some.inj h
  clear h
  go_enter Try.func49, Try.ntmps49
  go_wp2
  go_rounds 11
  all_goals
    rw [conv_arr (P := Try.prog) w 72 9 5 105 Try.underlying72 Try.underlying5 Try.underlying9 _ _ _ (by simp) rfl]
    go_wp2
    go_ret
    refine ⟨ret_str ?_, (Below.refl _ _).alloc (Nat.le_refl _) _⟩
    simp only [List.map, unInt, List.take, shortNums, List.take_succ_cons, List.take_zero]
    congr 1
    repeat' first | rw [if_pos (by omega)] | rw [if_neg (by omega)]
    repeat (first | rw [or128 _ (by omega) (by omega)] | rw [Int.emod_emod_of_dvd _ (by decide)])


/-! ### pack_Text: function 75, by hand -/
def pack_Text.f (a0 : ByteArray) : Option ByteArray := if a0.size ≤ 9223372036854775000 then some (strOfNums (shortNums 9 a0.size) ++ a0) else none
set_option maxHeartbeats 1000000 in
set_option maxRecDepth 100000 in
theorem pack_Text.calls (a0 : ByteArray) (r : ByteArray) (w : World) (h : pack_Text.f a0 = some r) :
    Calls Try.prog 75 #[.string a0] w fun e w' => e = .returned (.string r) ∧ Below w.heap.size w w' := by
  unfold pack_Text.f at h
  split at h
  case isFalse => cases h
  case isTrue hh =>
  obtain rfl := Option.some.inj h
  clear h
  have hs := Aside0.mk (shortNums_len 9 a0.size)
  have hf : pack_Short.f a0.size = some (strOfNums (shortNums 9 a0.size)) := by unfold pack_Short.f; rw [if_pos ⟨by omega, by omega⟩]
  have HF := Aside0.mk hf
  clear hf
  generalize hsn : strOfNums (shortNums 9 a0.size) = sn at *
  have hz : sn.size ≤ 10 := by rw [← hsn, strOfNums_size]; exact hs.out
  have HSN := Aside0.mk hsn
  clear hsn
  have c3b0 : (sn.size + a0.size ≤ 9223372036854775807) = True := eq_true (by omega)
  have c3b1 : decide (sn.size + a0.size ≤ 9223372036854775807) = true := decide_eq_true (by omega)
  have c3b2 : (9223372036854775807 < sn.size + a0.size) = False := eq_false (by omega)
  go_enter Try.func75, Try.ntmps75
  go_wp2_with (go_at_call 49; refine (pack_Short.calls _ _ _ HF.out).mono ?_; rintro e w' ⟨rfl, hb⟩)
  go_ret
  exact ⟨rfl, by assumption⟩


end Go.Proofs.Ytdkbikaheagbfaa.PT
