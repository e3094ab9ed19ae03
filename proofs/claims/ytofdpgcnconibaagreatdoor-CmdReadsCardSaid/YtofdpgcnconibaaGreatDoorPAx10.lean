-- WRITTEN BY a program of this session (pp.sh)
import Derived.Test.YtofdpgcnconibaaGreatDoorPAx0
namespace Go.Proofs.YtofdpgcnconibaaGreatDoor.PA
open Go.RowKit Go.Proofs.YtofdpgcnconibaaGreatDoorW.PrintWords Go.Proofs.YtofdpgcnconibaaGreatDoorW.PrintLast Go.Proofs.YtofdpgcnconibaaGreatDoorW.PrintMore Go.Proofs.YtofdpgcnconibaaGreatDoor.Plain
attribute [local go_sem] max2_int min2_int max_two min_two max_three min_three max_four min_four binOp_leq_s binOp_gtr_s binOp_geq_s lit_byte   -- for this text's walks alone
set_option linter.unusedVariables false
set_option linter.unusedSimpArgs false

/-! ### pack_Short: function 38, by hand -/
def pack_Short.f (a0 : Int) : Option ByteArray := if 0 ≤ a0 ∧ a0 < 18446744073709551616 then some (strOfNums (shortNums 9 a0)) else none
set_option maxHeartbeats 4000000 in
set_option maxRecDepth 100000 in
theorem pack_Short.calls (a0 : Int) (r : ByteArray) (w : World) (h : pack_Short.f a0 = some r) :
    Calls Tryz.prog 38 #[.int .u64 a0] w fun e w' => e = .returned (.string r) ∧ Below w.heap.size w w' := by
  unfold pack_Short.f at h
  split at h
  case isFalse => cases h
  case isTrue hh =>
  obtain ⟨h0, h1⟩ := hh
  obtain rfl := Option.some.inj h
  clear h
  go_enter Tryz.func38, Tryz.ntmps38
  go_wp2
  go_rounds 11
  all_goals
    rw [conv_arr (P := Tryz.prog) w 61 9 5 108 Tryz.underlying61 Tryz.underlying5 Tryz.underlying9 _ _ _ (by simp) rfl]
    go_wp2
    go_ret
    refine ⟨ret_str ?_, (Below.refl _ _).alloc (Nat.le_refl _) _⟩
    simp only [List.map, unInt, List.take, shortNums, List.take_succ_cons, List.take_zero]
    congr 1
    repeat' first | rw [if_pos (by omega)] | rw [if_neg (by omega)]
    repeat (first | rw [or128 _ (by omega) (by omega)] | rw [Int.emod_emod_of_dvd _ (by decide)])


/-! ### pack_Text: function 36, by hand -/
def pack_Text.f (a0 : ByteArray) : Option ByteArray := if a0.size ≤ 9223372036854775000 then some (strOfNums (shortNums 9 a0.size) ++ a0) else none
set_option maxHeartbeats 1000000 in
set_option maxRecDepth 100000 in
theorem pack_Text.calls (a0 : ByteArray) (r : ByteArray) (w : World) (h : pack_Text.f a0 = some r) :
    Calls Tryz.prog 36 #[.string a0] w fun e w' => e = .returned (.string r) ∧ Below w.heap.size w w' := by
  unfold pack_Text.f at h
  split at h
  case isFalse => cases h
  case isTrue hh =>
  obtain rfl := Option.some.inj h
  clear h
  have hs := Aside0.mk (shortNums_len 9 a0.size)
  have hf : pack_Short.f a0.size = some (strOfNums (shortNums 9 a0.size)) := by unfold pack_Short.f; rw [if_pos ⟨by omega, by omega⟩]
  have HF := Aside0.mk hf
  clear hf
  generalize hsn : strOfNums (shortNums 9 a0.size) = sn at *
  have hz : sn.size ≤ 10 := by rw [← hsn, strOfNums_size]; exact hs.out
  have HSN := Aside0.mk hsn
  clear hsn
  have c3b0 : (sn.size + a0.size ≤ 9223372036854775807) = True := eq_true (by omega)
  have c3b1 : decide (sn.size + a0.size ≤ 9223372036854775807) = true := decide_eq_true (by omega)
  have c3b2 : (9223372036854775807 < sn.size + a0.size) = False := eq_false (by omega)
  go_enter Tryz.func36, Tryz.ntmps36
  go_wp2_with (go_at_call 38; refine (pack_Short.calls _ _ _ HF.out).mono ?_; rintro e w' ⟨rfl, hb⟩)
  go_ret
  exact ⟨rfl, by assumption⟩


/-! ### pack_Fixed: function 37, by hand -/
def pack_Fixed.f (a0 : Int) : Option ByteArray := if 0 ≤ a0 ∧ a0 < 18446744073709551616 then some (strOfNums (fixedNums a0)) else none
set_option maxHeartbeats 800000 in
set_option maxRecDepth 100000 in
theorem pack_Fixed.calls (a0 : Int) (r : ByteArray) (w : World) (h : pack_Fixed.f a0 = some r) :
    Calls Tryz.prog 37 #[.int .u64 a0] w fun e w' => e = .returned (.string r) ∧ Below w.heap.size w w' := by
  unfold pack_Fixed.f at h
  split at h
  case isFalse => cases h
  case isTrue hh =>
  obtain ⟨h0, h1⟩ := hh
  obtain rfl := Option.some.inj h
  clear h
  have hcv := conv_new (P := Tryz.prog) w 61 9 5 107 Tryz.underlying61 Tryz.underlying5 Tryz.underlying9 (fixedNums a0) 8 8 (by simp [fixedNums])
  simp only [fixedNums, List.map, List.take] at hcv
  go_enter Tryz.func37, Tryz.ntmps37
  go_wp2
  go_rounds 9
  go_ret
  exact ⟨by simp [fixedNums], (Below.refl _ _).alloc (Nat.le_refl _) _⟩


end Go.Proofs.YtofdpgcnconibaaGreatDoor.PA
