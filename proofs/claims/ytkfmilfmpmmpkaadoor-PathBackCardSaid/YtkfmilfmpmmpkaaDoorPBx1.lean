-- WRITTEN BY a program of this session (pp.sh)
import Derived.Test.YtkfmilfmpmmpkaaDoorPBx0
namespace Go.Proofs.YtkfmilfmpmmpkaaDoor.PB
open Go.RowKit Go.Proofs.YtkfmilfmpmmpkaaDoorW.PrintWords Go.Proofs.YtkfmilfmpmmpkaaDoorW.PrintLast Go.Proofs.YtkfmilfmpmmpkaaDoorW.PrintMore Go.Proofs.YtkfmilfmpmmpkaaDoor.Plain
attribute [local go_sem] max2_int min2_int max_two min_two max_three min_three max_four min_four binOp_leq_s binOp_gtr_s binOp_geq_s lit_byte   -- for this text's walks alone
set_option linter.unusedVariables false
set_option linter.unusedSimpArgs false

/-! ### path_Name: function 12, by hand -/
/-- path.Name. -/
def path_Name.f (a0 : ByteArray) : Option Bool := some (freeL a0.data.toList && nameOk a0)
set_option maxHeartbeats 6400000 in
set_option maxRecDepth 100000 in
theorem path_Name.calls (a0 : ByteArray) (r : Bool) (w : World) (h : path_Name.f a0 = some r) :
    Calls Tryd.prog 12 #[.string a0] w fun e w' => e = .returned (.bool r) ∧ Below w.heap.size w w' := by
  have hr := Option.some.inj h
  have HR := Aside0.mk hr
  clear hr h
  go_enter Tryd.func12, Tryd.ntmps12
  go_wp2
  go_loopw [4] (fun _ wr => ∃ pos : Nat, wr.heap[w.heap.size]? = some (.stringIter a0 pos) ∧ Below w.heap.size w wr ∧ Aside0 (freeL a0.data.toList = freeL (a0.data.toList.drop pos)) ∧ pos ≤ a0.size) (fun _ wr => a0.size - wr.iterPos w.heap.size)
  case atStart =>
    refine ⟨0, World.iter_heap w a0 0, (Below.refl _ w).alloc (Nat.le_refl _) _, ⟨by rw [List.drop_zero]⟩, Nat.zero_le _⟩
  case round =>
    obtain ⟨pos, hit, hbw, HF, hle⟩ := hrel
    by_cases hp : pos < a0.size
    · have hnx : ∀ ty, (Instr.next (.pointer (some ⟨w.heap.size, 0, none⟩)) true ty).run Tryd.prog wr = _ := fun ty => Lib.run_next_any_at wr w.heap.size a0 pos ty hit hp
      obtain ⟨hfd, hle2⟩ := freeL_decode a0 pos hp
      have hbw2 := Lib.below_iterAt hbw (k := w.heap.size) (Nat.le_refl _) a0 (pos + (Utf8.decode a0 pos).2)
      have hit2 := Lib.iterAt_heap wr w.heap.size a0 pos (pos + (Utf8.decode a0 pos).2) hit
      have hw1 : 1 ≤ (Utf8.decode a0 pos).2 := by
        by_cases ha : (a0[pos]'hp).toNat < 128
        · rw [decode_ascii a0 pos hp ha]; exact Nat.le_refl _
        · exact (decode_high a0 pos hp (by omega)).2
      generalize (Utf8.decode a0 pos).1 = c at *
      generalize (Utf8.decode a0 pos).2 = k at *
      have HD := Aside0.mk hfd
      clear hfd
      by_cases h47 : c = 47
      · have e1 : ((c : Int) == 47) = true := by rw [h47]; rfl
        have HZ : Aside0 (freeL a0.data.toList = false) := ⟨by rw [HF.out, HD.out, h47]; rfl⟩
        clear h47 HD HF
        go_wp2
        go_ret
        exact ⟨by rw [← HR.out, HZ.out]; rfl, hbw2⟩
      · have e1 : ((c : Int) == 47) = false := by
          rw [beq_eq_false_iff_ne]; omega
        by_cases h0 : c = 0
        · have e2 : ((c : Int) == 0) = true := by rw [h0]; rfl
          have HZ : Aside0 (freeL a0.data.toList = false) := ⟨by rw [HF.out, HD.out, h0]; rfl⟩
          clear h47 h0 HD HF
          go_wp2
          go_ret
          exact ⟨by rw [← HR.out, HZ.out]; rfl, hbw2⟩
        · have e2 : ((c : Int) == 0) = false := by
            rw [beq_eq_false_iff_ne]; omega
          have HZ : Aside0 (freeL a0.data.toList = freeL (a0.data.toList.drop (pos + k))) := ⟨by
            rw [HF.out, HD.out]
            have f1 : (c != 47) = true := by simp [h47]
            have f2 : (c != 0) = true := by simp [h0]
            rw [f1, f2]; rfl⟩
          clear h47 h0 HD HF
          go_wp2
          go_roundw
          case rel => exact ⟨pos + k, hit2, hbw2, HZ, hle2⟩
          case measure =>
            simp only [World.iterPos, hit2, hit]
            omega
    · have hnx : ∀ ty, (Instr.next (.pointer (some ⟨w.heap.size, 0, none⟩)) true ty).run Tryd.prog wr = _ := fun ty => Lib.run_next_end_at wr w.heap.size a0 pos ty hit hp
      have HZ : Aside0 (freeL a0.data.toList = true) := ⟨by
        rw [HF.out, List.drop_eq_nil_of_le (by rw [Array.length_toList]; exact Nat.le_of_not_lt hp)]; rfl⟩
      clear HF hp
      go_wp2
      all_goals go_ret
      all_goals refine ⟨?_, hbw⟩
      all_goals rw [← HR.out, HZ.out]
      · exact congrArg (fun b => Ending.returned (.bool b)) (by simp [nameOk, *])
      · exact congrArg (fun b => Ending.returned (.bool b)) (by simp [nameOk, *])
      · rename_i h1_ h2_ h3_
        exact congrArg (fun b => Ending.returned (.bool b)) (by
          have e1 : a0.toList.isEmpty = false := by simp [h1_]
          have e3 : (a0.toList == [46]) = false := by simp [h3_]
          unfold nameOk
          rw [e1, e3, decide_eq_true h2_]
          simp)
      · rename_i h1_ h2_
        exact congrArg (fun b => Ending.returned (.bool b)) (by
          have e2 : ¬ ((a0.size : Int) ≤ 255) := by omega
          unfold nameOk
          rw [decide_eq_false e2]
          simp)


/-! ### strings_Index: function 43, by hand -/
/-- strings.Index, asked for one byte. -/
def strings_Index.f (a0 a1 : ByteArray) : Option Int := if a1.size = 1 then some (Lib.indexByte a0.data.toList (a1.data.getD 0 0)) else none
theorem strings_Index.calls (a0 a1 : ByteArray) (r : Int) (w : World) (h : strings_Index.f a0 a1 = some r) :
    Calls Tryd.prog 43 #[.string a0, .string a1] w fun e w' => e = .returned (.int .i64 r) ∧ Drawn0 w w' := by
  unfold strings_Index.f at h
  split at h
  case isFalse => cases h
  case isTrue hh =>
  obtain rfl := Option.some.inj h
  obtain ⟨⟨l⟩⟩ := a1
  obtain ⟨c, rfl⟩ : ∃ c, l = [c] := List.length_eq_one_iff.mp hh
  exact (Tryd.strings_Index_one a0 c w).mono fun e w' ⟨he, hw⟩ => ⟨he, ⟨0, hw⟩⟩


/-! ### strings_explode: function 51, by hand -/
/-- strings.explode: not asked for. -/
def strings_explode.f (a0 : ByteArray) (a1 : Int) : Option (List ByteArray) := none
theorem strings_explode.calls (a0 : ByteArray) (a1 : Int) (r : List ByteArray) (w : World) (h : strings_explode.f a0 a1 = some r) :
    Calls Tryd.prog 51 #[.string a0, .int .i64 a1] w fun e w' => ∃ v0_ : Value, e = .returned (v0_) ∧ Kd.R Kd.string 9 w' w.heap.size (fun _ => True) v0_ r ∧ Below w.heap.size w w' := by cases h


/-! ### strings_Count: function 52, by hand -/
/-- strings.Count, asked for one byte. -/
def strings_Count.f (a0 a1 : ByteArray) : Option Int := if a1.size = 1 then some (Lib.countByte a0.data.toList (a1.data.getD 0 0)) else none
theorem strings_Count.calls (a0 a1 : ByteArray) (r : Int) (w : World) (h : strings_Count.f a0 a1 = some r) :
    Calls Tryd.prog 52 #[.string a0, .string a1] w fun e w' => e = .returned (.int .i64 r) ∧ Drawn0 w w' := by
  unfold strings_Count.f at h
  split at h
  case isFalse => cases h
  case isTrue hh =>
  obtain rfl := Option.some.inj h
  obtain ⟨⟨l⟩⟩ := a1
  obtain ⟨c, rfl⟩ : ∃ c, l = [c] := List.length_eq_one_iff.mp hh
  exact (Tryd.strings_Count_one a0 c w).mono fun e w' ⟨he, hw⟩ => ⟨he, ⟨0, hw⟩⟩


end Go.Proofs.YtkfmilfmpmmpkaaDoor.PB
