-- WRITTEN BY a program of this session (pp.sh)
import Derived.Test.YtofdpgcnconibaaGreatDoorPAx0
set_option linter.unusedVariables false
set_option linter.unusedSimpArgs false
namespace Go.Proofs.YtofdpgcnconibaaGreatDoor.PA
open Go.RowKit Go.Proofs.YtofdpgcnconibaaGreatDoorW.PrintWords Go.Proofs.YtofdpgcnconibaaGreatDoorW.PrintLast Go.Proofs.YtofdpgcnconibaaGreatDoorW.PrintMore Go.Proofs.YtofdpgcnconibaaGreatDoor.Plain
attribute [local go_sem] max2_int min2_int max_two min_two max_three min_three max_four min_four binOp_leq_s binOp_gtr_s binOp_geq_s lit_byte   -- for this text's walks alone
set_option linter.unusedVariables false
set_option linter.unusedSimpArgs false

/-! ### cmd_of: function 34, by hand -/
-- 34
/-- A kind's form: to, name, data, n, least, most; is there one? -/
def cmd_of.form (c : Int) : Bool × Bool × Bool × Bool × Int × Int × Bool :=
  if c = 3 then (false, false, true, true, 2, 1099511627776, true) else
  if c = 1 ∨ c = 2 then (false, false, false, true, 2, 1099511627776, true) else
  if c = 4 ∨ c = 5 then (true, false, false, false, 0, 0, true) else
  if c = 6 ∨ c = 7 then (false, false, false, false, 0, 0, true) else
  if c = 8 then (false, false, false, true, 0, 4611686018427387904, true) else
  if c = 9 then (false, false, true, true, 0, 72057594037927935, true) else
  if c = 10 then (false, false, false, true, 1, 72057594037927935, true) else
  if c = 11 then (false, false, false, true, 0, 72057594037927935, true) else
  if c = 12 then (false, true, true, false, 0, 0, true) else
  if c = 13 then (false, true, false, false, 0, 0, true) else
  if c = 14 then (false, false, false, true, 0, 4095, true) else
  if c = 15 then (false, false, false, true, -9223372036854775808, 9223372036854775807, true) else
  if c = 16 then (false, false, false, true, 2, 1099511627777, true) else (false, false, false, false, 0, 0, false)
def cmd_of.f (k : Nat) (c : Int) : Option (Bool × Bool × Bool × Bool × Int × Int × Bool) := some (cmd_of.form c)
theorem cmd_of.kinds (c : Int) : c = 1 ∨ c = 2 ∨ c = 3 ∨ c = 4 ∨ c = 5 ∨ c = 6 ∨ c = 7 ∨ c = 8 ∨ c = 9 ∨ c = 10 ∨ c = 11 ∨ c = 12 ∨ c = 13 ∨ c = 14 ∨ c = 15 ∨ c = 16 ∨ (c < 1 ∨ 16 < c) := by omega
set_option maxHeartbeats 8000000 in
set_option maxRecDepth 100000 in
theorem cmd_of.all (c : Int) (w : World) :
    Calls Tryz.prog 34 #[.int .i64 c] w fun e w' => e = .returned (.tuple #[.agg #[.bool (cmd_of.form c).1, .bool (cmd_of.form c).2.1, .bool (cmd_of.form c).2.2.1, .bool (cmd_of.form c).2.2.2.1, .int .i64 (cmd_of.form c).2.2.2.2.1, .int .i64 (cmd_of.form c).2.2.2.2.2.1], .bool (cmd_of.form c).2.2.2.2.2.2]) ∧ Below w.heap.size w w' := by
  rcases cmd_of.kinds c with rfl | rfl | rfl | rfl | rfl | rfl | rfl | rfl | rfl | rfl | rfl | rfl | rfl | rfl | rfl | rfl | h
  case inr.inr.inr.inr.inr.inr.inr.inr.inr.inr.inr.inr.inr.inr.inr.inr =>
    have n1 : (c == 1) = false := beq_eq_false_iff_ne.mpr (by omega)
    have n2 : (c == 2) = false := beq_eq_false_iff_ne.mpr (by omega)
    have n3 : (c == 3) = false := beq_eq_false_iff_ne.mpr (by omega)
    have n4 : (c == 4) = false := beq_eq_false_iff_ne.mpr (by omega)
    have n5 : (c == 5) = false := beq_eq_false_iff_ne.mpr (by omega)
    have n6 : (c == 6) = false := beq_eq_false_iff_ne.mpr (by omega)
    have n7 : (c == 7) = false := beq_eq_false_iff_ne.mpr (by omega)
    have n8 : (c == 8) = false := beq_eq_false_iff_ne.mpr (by omega)
    have n9 : (c == 9) = false := beq_eq_false_iff_ne.mpr (by omega)
    have n10 : (c == 10) = false := beq_eq_false_iff_ne.mpr (by omega)
    have n11 : (c == 11) = false := beq_eq_false_iff_ne.mpr (by omega)
    have n12 : (c == 12) = false := beq_eq_false_iff_ne.mpr (by omega)
    have n13 : (c == 13) = false := beq_eq_false_iff_ne.mpr (by omega)
    have n14 : (c == 14) = false := beq_eq_false_iff_ne.mpr (by omega)
    have n15 : (c == 15) = false := beq_eq_false_iff_ne.mpr (by omega)
    have n16 : (c == 16) = false := beq_eq_false_iff_ne.mpr (by omega)
    have hf : cmd_of.form c = (false, false, false, false, 0, 0, false) := by
      unfold cmd_of.form
      repeat rw [if_neg (by omega)]
    rw [hf]
    clear hf h
    go_enter Tryz.func34, Tryz.ntmps34
    go_wp2
    refine bodyPost_ret (v := _) ?_ rfl ⟨rfl, ?_⟩
    · simp [results, Tryz.results34, go_sem]
    · exact (Below.refl _ w).alloc (Nat.le_refl _) _
  all_goals
    go_enter Tryz.func34, Tryz.ntmps34
    go_wp2
    refine bodyPost_ret (v := _) ?_ rfl ⟨rfl, ?_⟩
    · simp [results, Tryz.results34, go_sem, cmd_of.form]
    · exact (Below.refl _ w).alloc (Nat.le_refl _) _
theorem cmd_of.calls (k : Nat) (a0 : Int) (r1 : Bool) (r2 : Bool) (r3 : Bool) (r4 : Bool) (r5 : Int) (r6 : Int) (r7 : Bool) (w : World) (h : cmd_of.f k a0 = some (r1, r2, r3, r4, r5, r6, r7)) :
    Calls Tryz.prog 34 #[.int .i64 a0] w fun e w' => e = .returned (.tuple #[.agg #[.bool r1, .bool r2, .bool r3, .bool r4, .int .i64 r5, .int .i64 r6], .bool r7]) ∧ Below w.heap.size w w' := by
  have h2 := cmd_of.all a0 w
  rw [Option.some.inj h] at h2
  exact h2


/-! ### path_Name: function 48, by hand -/
/-- path.Name. -/
def path_Name.f (a0 : ByteArray) : Option Bool := some (freeL a0.data.toList && nameOk a0)
set_option maxHeartbeats 6400000 in
set_option maxRecDepth 100000 in
theorem path_Name.calls (a0 : ByteArray) (r : Bool) (w : World) (h : path_Name.f a0 = some r) :
    Calls Tryz.prog 48 #[.string a0] w fun e w' => e = .returned (.bool r) ∧ Below w.heap.size w w' := by
  have hr := Option.some.inj h
  have HR := Aside0.mk hr
  clear hr h
  go_enter Tryz.func48, Tryz.ntmps48
  go_wp2
  go_loopw [4] (fun _ wr => ∃ pos : Nat, wr.heap[w.heap.size]? = some (.stringIter a0 pos) ∧ Below w.heap.size w wr ∧ Aside0 (freeL a0.data.toList = freeL (a0.data.toList.drop pos)) ∧ pos ≤ a0.size) (fun _ wr => a0.size - wr.iterPos w.heap.size)
  case atStart =>
    refine ⟨0, World.iter_heap w a0 0, (Below.refl _ w).alloc (Nat.le_refl _) _, ⟨by rw [List.drop_zero]⟩, Nat.zero_le _⟩
  case round =>
    obtain ⟨pos, hit, hbw, HF, hle⟩ := hrel
    by_cases hp : pos < a0.size
    · have hnx : ∀ ty, (Instr.next (.pointer (some ⟨w.heap.size, 0, none⟩)) true ty).run Tryz.prog wr = _ := fun ty => Lib.run_next_any_at wr w.heap.size a0 pos ty hit hp
      obtain ⟨hfd, hle2⟩ := freeL_decode a0 pos hp
      have hbw2 := Lib.below_iterAt hbw (k := w.heap.size) (Nat.le_refl _) a0 (pos + (Utf8.decode a0 pos).2)
      have hit2 := Lib.iterAt_heap wr w.heap.size a0 pos (pos + (Utf8.decode a0 pos).2) hit
      have hw1 : 1 ≤ (Utf8.decode a0 pos).2 := by
        by_cases ha : (a0[pos]'hp).toNat < 128
        · rw [decode_ascii a0 pos hp ha]; exact Nat.le_refl _
        · exact (decode_high a0 pos hp (by omega)).2
      generalize (Utf8.decode a0 pos).1 = c at *
      generalize (Utf8.decode a0 pos).2 = k at *
      have HD := Aside0.mk hfd
      clear hfd
      by_cases h47 : c = 47
      · have e1 : ((c : Int) == 47) = true := by rw [h47]; rfl
        have HZ : Aside0 (freeL a0.data.toList = false) := ⟨by rw [HF.out, HD.out, h47]; rfl⟩
        clear h47 HD HF
        go_wp2
        go_ret
        exact ⟨by rw [← HR.out, HZ.out]; rfl, hbw2⟩
      · have e1 : ((c : Int) == 47) = false := by
          rw [beq_eq_false_iff_ne]; omega
        by_cases h0 : c = 0
        · have e2 : ((c : Int) == 0) = true := by rw [h0]; rfl
          have HZ : Aside0 (freeL a0.data.toList = false) := ⟨by rw [HF.out, HD.out, h0]; rfl⟩
          clear h47 h0 HD HF
          go_wp2
          go_ret
          exact ⟨by rw [← HR.out, HZ.out]; rfl, hbw2⟩
        · have e2 : ((c : Int) == 0) = false := by
            rw [beq_eq_false_iff_ne]; omega
          have HZ : Aside0 (freeL a0.data.toList = freeL (a0.data.toList.drop (pos + k))) := ⟨by
            rw [HF.out, HD.out]
            have f1 : (c != 47) = true := by simp [h47]
            have f2 : (c != 0) = true := by simp [h0]
            rw [f1, f2]; rfl⟩
          clear h47 h0 HD HF
          go_wp2
          go_roundw
          case rel => exact ⟨pos + k, hit2, hbw2, HZ, hle2⟩
          case measure =>
            simp only [World.iterPos, hit2, hit]
            omega
    · have hnx : ∀ ty, (Instr.next (.pointer (some ⟨w.heap.size, 0, none⟩)) true ty).run Tryz.prog wr = _ := fun ty => Lib.run_next_end_at wr w.heap.size a0 pos ty hit hp
      have HZ : Aside0 (freeL a0.data.toList = true) := ⟨by
        rw [HF.out, List.drop_eq_nil_of_le (by rw [Array.length_toList]; exact Nat.le_of_not_lt hp)]; rfl⟩
      clear HF hp
      go_wp2
      all_goals go_ret
      all_goals refine ⟨?_, hbw⟩
      all_goals rw [← HR.out, HZ.out]
      · exact congrArg (fun b => Ending.returned (.bool b)) (by simp [nameOk, *])
      · exact congrArg (fun b => Ending.returned (.bool b)) (by simp [nameOk, *])
      · rename_i h1_ h2_ h3_
        exact congrArg (fun b => Ending.returned (.bool b)) (by
          have e1 : a0.toList.isEmpty = false := by simp [h1_]
          have e3 : (a0.toList == [46]) = false := by simp [h3_]
          unfold nameOk
          rw [e1, e3, decide_eq_true h2_]
          simp)
      · rename_i h1_ h2_
        exact congrArg (fun b => Ending.returned (.bool b)) (by
          have e2 : ¬ ((a0.size : Int) ≤ 255) := by omega
          unfold nameOk
          rw [decide_eq_false e2]
          simp)


/-! ### stringslite_HasPrefix: function 101 -/
def stringslite_HasPrefix.f (a0 : ByteArray) (a1 : ByteArray) : Option (Bool) := if (a0.size : Int) ≥ (a1.size : Int) then (if 0 ≤ (a1.size : Int) then (if (a1.size : Int) ≤ (a0.size : Int) then (some ((a0.extract 0 ((a1.size : Int) : Int).toNat).toList == a1.toList)) else (none)) else (none)) else (some false)
set_option maxHeartbeats 8000000 in
set_option maxRecDepth 100000 in
theorem stringslite_HasPrefix.calls (a0 : ByteArray) (a1 : ByteArray) (r : Bool) (w : World) (h : stringslite_HasPrefix.f a0 a1 = some r) :
  Calls Tryz.prog 101 #[.string a0, .string a1] w fun e w' => e = .returned (.bool r) ∧ Drawn0 w w' := by
 have H : (if (a0.size : Int) ≥ (a1.size : Int) then (if 0 ≤ (a1.size : Int) then (if (a1.size : Int) ≤ (a0.size : Int) then (some ((a0.extract 0 ((a1.size : Int) : Int).toNat).toList == a1.toList)) else (none)) else (none)) else (some false)) = some r := h
 clear h
 by_cases c3 : (a0.size : Int) ≥ (a1.size : Int)
 ·rw [if_pos c3] at H
  have c3b0 : decide ((a1.size : Int) ≤ (a0.size : Int)) = true := decide_eq_true c3
  have c3b1 : decide (a1.size ≤ a0.size) = true := decide_eq_true (Int.ofNat_le.mp c3)
  clear c3
  by_cases c4 : 0 ≤ (a1.size : Int)
  ·rw [if_pos c4] at H
   have c4b0 := eq_true c4
   have c4b1 : decide (0 ≤ (a1.size : Int)) = true := decide_eq_true c4
   clear c4
   by_cases c5 : (a1.size : Int) ≤ (a0.size : Int)
   ·rw [if_pos c5] at H
    have c5b0 := eq_true c5
    have c5b1 : decide ((a1.size : Int) ≤ (a0.size : Int)) = true := decide_eq_true c5
    clear c5
    obtain rfl := Option.some.inj H
    go_enter Tryz.func101, Tryz.ntmps101
    go_wp2
    go_ret
    exact ⟨by first | rfl | (simp; done) | (simp [*]; done), by repeat (first | exact Drawn0.refl _ | apply Drawn0.step)⟩
   ·rw [if_neg c5] at H
    exact absurd H (by simp)
  ·rw [if_neg c4] at H
   exact absurd H (by simp)
 ·rw [if_neg c3] at H
  have c3b0 : decide ((a1.size : Int) ≤ (a0.size : Int)) = false := decide_eq_false c3
  have c3b1 : decide (a1.size ≤ a0.size) = false := decide_eq_false (fun h => c3 (Int.ofNat_le.mpr h))
  clear c3
  obtain rfl := Option.some.inj H
  go_enter Tryz.func101, Tryz.ntmps101
  go_wp2
  go_ret
  exact ⟨by first | rfl | (simp; done) | (simp [*]; done), by repeat (first | exact Drawn0.refl _ | apply Drawn0.step)⟩

/-! ### stringslite_CutPrefix: function 95 -/
def stringslite_CutPrefix.f (a0 : ByteArray) (a1 : ByteArray) : Option (ByteArray × Bool) := (stringslite_HasPrefix.f a0 a1).bind fun t101 => (if t101 = true then (if 0 ≤ (a1.size : Int) then (if (a1.size : Int) ≤ (a0.size : Int) then (some (a0.extract ((a1.size : Int) : Int).toNat a0.size, true)) else (none)) else (none)) else (some (a0, false)))
set_option maxHeartbeats 8000000 in
set_option maxRecDepth 100000 in
theorem stringslite_CutPrefix.calls (a0 : ByteArray) (a1 : ByteArray) (r1 : ByteArray) (r2 : Bool) (w : World) (h : stringslite_CutPrefix.f a0 a1 = some (r1, r2)) :
  Calls Tryz.prog 95 #[.string a0, .string a1] w fun e w' => e = .returned (.tuple #[.string r1, .bool r2]) ∧ Drawn0 w w' := by
 have H : ((stringslite_HasPrefix.f a0 a1).bind fun t101 => (if t101 = true then (if 0 ≤ (a1.size : Int) then (if (a1.size : Int) ≤ (a0.size : Int) then (some (a0.extract ((a1.size : Int) : Int).toNat a0.size, true)) else (none)) else (none)) else (some (a0, false)))) = some (r1, r2) := h
 clear h
 replace H := Option.bind_eq_some_iff.mp H
 obtain ⟨t101, A30, H⟩ := H
 replace H : (if t101 = true then (if 0 ≤ (a1.size : Int) then (if (a1.size : Int) ≤ (a0.size : Int) then (some (a0.extract ((a1.size : Int) : Int).toNat a0.size, true)) else (none)) else (none)) else (some (a0, false))) = some (r1, r2) := H
 have A3 := Aside0.mk A30
 clear A30
 by_cases c4 : t101 = true
 ·subst c4
  have H1 : (if 0 ≤ (a1.size : Int) then (if (a1.size : Int) ≤ (a0.size : Int) then (some (a0.extract ((a1.size : Int) : Int).toNat a0.size, true)) else (none)) else (none)) = some (r1, r2) := by rw [if_pos rfl] at H; exact H
  clear H
  have H := H1
  clear H1
  by_cases c5 : 0 ≤ (a1.size : Int)
  ·rw [if_pos c5] at H
   have c5b0 := eq_true c5
   have c5b1 : decide (0 ≤ (a1.size : Int)) = true := decide_eq_true c5
   clear c5
   by_cases c6 : (a1.size : Int) ≤ (a0.size : Int)
   ·rw [if_pos c6] at H
    have c6b0 := eq_true c6
    have c6b1 : decide ((a1.size : Int) ≤ (a0.size : Int)) = true := decide_eq_true c6
    clear c6
    simp only [Option.some.injEq, Prod.mk.injEq] at H
    obtain ⟨rfl, rfl⟩ := H
    go_enter Tryz.func95, Tryz.ntmps95
    go_wp2_with (first | ((with_reducible refine gate_callee (f := 101) rfl ?_); refine goesL_ (some 8) rfl rfl Tryz.func101 (by kernel_rfl) rfl #[.string a0, .string a1] rfl (by (try simp only [List.map_toArray, List.map_cons, List.map_nil]); first | done | rfl | (simp only [List.length_drop, List.length_take]; rfl)) ?_; (with_reducible refine (stringslite_HasPrefix.calls a0 a1 true _ A3.out).mono ?_); rintro e w' ⟨rfl, ⟨nd, rfl⟩⟩; refine ⟨_, rfl, ?_⟩))
    go_ret2
    exact ⟨by first | rfl | (simp; done) | (simp [*]; done), by repeat (first | exact Drawn0.refl _ | apply Drawn0.step)⟩
   ·rw [if_neg c6] at H
    exact absurd H (by simp)
  ·rw [if_neg c5] at H
   exact absurd H (by simp)
 ·replace c4 := Bool.eq_false_iff.mpr c4
  subst c4
  have H1 : (some (a0, false)) = some (r1, r2) := by rw [if_neg (show ¬ (false = true) by decide)] at H; exact H
  clear H
  have H := H1
  clear H1
  simp only [Option.some.injEq, Prod.mk.injEq] at H
  obtain ⟨rfl, rfl⟩ := H
  go_enter Tryz.func95, Tryz.ntmps95
  go_wp2_with (first | ((with_reducible refine gate_callee (f := 101) rfl ?_); refine goesL_ (some 8) rfl rfl Tryz.func101 (by kernel_rfl) rfl #[.string a0, .string a1] rfl (by (try simp only [List.map_toArray, List.map_cons, List.map_nil]); first | done | rfl | (simp only [List.length_drop, List.length_take]; rfl)) ?_; (with_reducible refine (stringslite_HasPrefix.calls a0 a1 false _ A3.out).mono ?_); rintro e w' ⟨rfl, ⟨nd, rfl⟩⟩; refine ⟨_, rfl, ?_⟩))
  go_ret2
  exact ⟨by first | rfl | (simp; done) | (simp [*]; done), by repeat (first | exact Drawn0.refl _ | apply Drawn0.step)⟩

/-! ### strings_CutPrefix: function 89 -/
def strings_CutPrefix.f (a0 : ByteArray) (a1 : ByteArray) : Option (ByteArray × Bool) := (stringslite_CutPrefix.f a0 a1).bind fun bt102 => (some (bt102.1, bt102.2))
set_option maxHeartbeats 8000000 in
set_option maxRecDepth 100000 in
theorem strings_CutPrefix.calls (a0 : ByteArray) (a1 : ByteArray) (r1 : ByteArray) (r2 : Bool) (w : World) (h : strings_CutPrefix.f a0 a1 = some (r1, r2)) :
  Calls Tryz.prog 89 #[.string a0, .string a1] w fun e w' => e = .returned (.tuple #[.string r1, .bool r2]) ∧ Drawn0 w w' := by
 have H : ((stringslite_CutPrefix.f a0 a1).bind fun bt102 => (some (bt102.1, bt102.2))) = some (r1, r2) := h
 clear h
 replace H := Option.bind_eq_some_iff.mp H
 obtain ⟨⟨t102, t103⟩, A30, H⟩ := H
 replace H : (some (t102, t103)) = some (r1, r2) := H
 have A3 := Aside0.mk A30
 clear A30
 simp only [Option.some.injEq, Prod.mk.injEq] at H
 obtain ⟨rfl, rfl⟩ := H
 go_enter Tryz.func89, Tryz.ntmps89
 go_wp2_with (first | ((with_reducible refine gate_callee (f := 95) rfl ?_); refine goesL_ (some 8) rfl rfl Tryz.func95 (by kernel_rfl) rfl #[.string a0, .string a1] rfl (by (try simp only [List.map_toArray, List.map_cons, List.map_nil]); first | done | rfl | (simp only [List.length_drop, List.length_take]; rfl)) ?_; (with_reducible refine (stringslite_CutPrefix.calls a0 a1 t102 t103 _ A3.out).mono ?_); rintro e w' ⟨rfl, ⟨nd, rfl⟩⟩; refine ⟨_, rfl, ?_⟩))
 go_ret2
 exact ⟨by first | rfl | (simp; done) | (simp [*]; done), by repeat (first | exact Drawn0.refl _ | apply Drawn0.step)⟩

/-! ### strconv_Itoa: function 106, by hand -/
/-- strconv.Itoa. -/
def strconv_Itoa.f (a0 : Int) : Option ByteArray := if -9223372036854775808 ≤ a0 ∧ a0 ≤ 9223372036854775807 then some ⟨(Lib.itoa a0).toArray⟩ else none
theorem strconv_Itoa.calls (a0 : Int) (r : ByteArray) (w : World) (hT : Tabs w) (h : strconv_Itoa.f a0 = some r) :
    Calls Tryz.prog 106 #[.int .i64 a0] w fun e w' => e = .returned (.string r) ∧ Below w.heap.size w w' := by
  unfold strconv_Itoa.f at h
  split at h
  case isFalse => cases h
  case isTrue hh =>
  obtain rfl := Option.some.inj h
  exact (Tryz.strconv_Itoa a0 hh.1 hh.2 w hT.1).mono fun e w' ⟨he, k, os, hw⟩ => ⟨he, by
    subst hw
    exact ⟨rfl, rfl, rfl, by show w.heap.size ≤ (w.heap ++ os).size; simp, fun i hi => by
      show (w.heap ++ os)[i]? = w.heap[i]?
      rw [Array.getElem?_append_left hi]⟩⟩


/-! ### path_Orphan: function 99 -/
def path_Orphan.f (a0 : Int) : Option (ByteArray × Int) := if a0 < 1 then (some ((⟨#[]⟩ : ByteArray), 1)) else (if a0 > 1099511627776 then (some ((⟨#[]⟩ : ByteArray), 1)) else ((strconv_Itoa.f a0).bind fun t104 => (if 1 + t104.size ≤ 9223372036854775807 then (some ((⟨#[0]⟩ : ByteArray) ++ t104, 0)) else (none))))
set_option maxHeartbeats 8000000 in
set_option maxRecDepth 100000 in
theorem path_Orphan.calls (a0 : Int) (r1 : ByteArray) (r2 : Int) (w : World) (hT : Tabs w) (h : path_Orphan.f a0 = some (r1, r2)) :
  Calls Tryz.prog 99 #[.int .i64 a0] w fun e w' => e = .returned (.tuple #[.string r1, .int .i64 r2]) ∧ Below w.heap.size w w' := by
 have HB := Aside0.mk (Below.refl w.heap.size w)
 have H : (if a0 < 1 then (some ((⟨#[]⟩ : ByteArray), 1)) else (if a0 > 1099511627776 then (some ((⟨#[]⟩ : ByteArray), 1)) else ((strconv_Itoa.f a0).bind fun t104 => (if 1 + t104.size ≤ 9223372036854775807 then (some ((⟨#[0]⟩ : ByteArray) ++ t104, 0)) else (none))))) = some (r1, r2) := h
 clear h
 by_cases c2 : a0 < 1
 ·rw [if_pos c2] at H
  have c2b0 : decide (a0 < 1) = true := decide_eq_true c2
  clear c2
  simp only [Option.some.injEq, Prod.mk.injEq] at H
  obtain ⟨rfl, rfl⟩ := H
  go_enter Tryz.func99, Tryz.ntmps99
  go_wp2
  go_ret2
  exact ⟨by first | rfl | (simp [errW_none, errW_some] <;> rfl) | (simp [*, errW_none, errW_some] <;> rfl), by repeat (first | (with_reducible first | exact HB.out | apply below_alloc | apply pw_below_drewN | apply below_drew1) | exact HB.out)⟩
 ·rw [if_neg c2] at H
  have c2b0 : decide (a0 < 1) = false := decide_eq_false c2
  clear c2
  by_cases c3 : a0 > 1099511627776
  ·rw [if_pos c3] at H
   have c3b0 : decide (1099511627776 < a0) = true := decide_eq_true c3
   clear c3
   simp only [Option.some.injEq, Prod.mk.injEq] at H
   obtain ⟨rfl, rfl⟩ := H
   go_enter Tryz.func99, Tryz.ntmps99
   go_wp2
   go_ret2
   exact ⟨by first | rfl | (simp [errW_none, errW_some] <;> rfl) | (simp [*, errW_none, errW_some] <;> rfl), by repeat (first | (with_reducible first | exact HB.out | apply below_alloc | apply pw_below_drewN | apply below_drew1) | exact HB.out)⟩
  ·rw [if_neg c3] at H
   have c3b0 : decide (1099511627776 < a0) = false := decide_eq_false c3
   clear c3
   replace H := Option.bind_eq_some_iff.mp H
   obtain ⟨t104, A40, H⟩ := H
   replace H : (if 1 + t104.size ≤ 9223372036854775807 then (some ((⟨#[0]⟩ : ByteArray) ++ t104, 0)) else (none)) = some (r1, r2) := H
   have A4 := Aside0.mk A40
   clear A40
   by_cases c5 : 1 + t104.size ≤ 9223372036854775807
   ·rw [if_pos c5] at H
    have c5b0 := eq_true c5
    have c5b1 : decide (1 + t104.size ≤ 9223372036854775807) = true := decide_eq_true c5
    try have c5b2 : (9223372036854775807 < 1 + t104.size) = False := eq_false (Nat.not_lt.2 c5)
    simp only [Option.some.injEq, Prod.mk.injEq] at H
    obtain ⟨rfl, rfl⟩ := H
    go_enter Tryz.func99, Tryz.ntmps99
    go_wp2_with (first | ((with_reducible refine gate_callee (f := 106) rfl ?_); refine goesL_ (some 11) rfl rfl Tryz.func106 (by kernel_rfl) rfl #[.int .i64 a0] rfl (by (try simp only [List.map_toArray, List.map_cons, List.map_nil]); first | done | rfl | (simp only [List.length_drop, List.length_take]; rfl)) ?_; (with_reducible refine (strconv_Itoa.calls a0 t104 _ ?side1 A4.out).mono ?_); (case side1 => exact Tabs.on hT (by repeat (first | (with_reducible first | exact HB.out | apply below_alloc | apply pw_below_drewN | apply below_drew1) | exact HB.out))); rintro e w6 ⟨rfl, hb⟩; refine ⟨_, rfl, ?_⟩; have n0_ := Aside0.mk (below_step (by repeat (first | (with_reducible first | exact HB.out | apply below_alloc | apply pw_below_drewN | apply below_drew1) | exact HB.out)) hb); clear HB; have HB := n0_; clear n0_; (try clear hb); (try clear hb2); (try clear hk); (try clear hi)))
    go_ret2
    exact ⟨by first | rfl | (simp [errW_none, errW_some] <;> rfl) | (simp [*, errW_none, errW_some] <;> rfl), by repeat (first | (with_reducible first | exact HB.out | apply below_alloc | apply pw_below_drewN | apply below_drew1) | exact HB.out)⟩
   ·rw [if_neg c5] at H
    exact absurd H (by simp)

end Go.Proofs.YtofdpgcnconibaaGreatDoor.PA
