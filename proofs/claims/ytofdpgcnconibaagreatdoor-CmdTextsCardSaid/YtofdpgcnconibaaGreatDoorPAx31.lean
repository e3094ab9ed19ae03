-- WRITTEN BY a program of this session (mergeset.py): several texts as one
import Derived.Test.YtofdpgcnconibaaGreatDoorPAx0
import Derived.Test.YtofdpgcnconibaaGreatDoorPAx1
set_option linter.unusedVariables false
set_option linter.unusedSimpArgs false
-- WRITTEN BY a program of this session (pp.sh)
namespace Go.Proofs.YtofdpgcnconibaaGreatDoor.PA
open Go.RowKit Go.Proofs.YtofdpgcnconibaaGreatDoorW.PrintWords Go.Proofs.YtofdpgcnconibaaGreatDoorW.PrintLast Go.Proofs.YtofdpgcnconibaaGreatDoorW.PrintMore Go.Proofs.YtofdpgcnconibaaGreatDoor.Plain
attribute [local go_sem] max2_int min2_int max_two min_two max_three min_three max_four min_four binOp_leq_s binOp_gtr_s binOp_geq_s lit_byte   -- for this text's walks alone
set_option linter.unusedVariables false
set_option linter.unusedSimpArgs false

attribute [local go_sem high] eqA23
/-! ### coppiceref19_Same: function 19 -/
def coppiceref19_Same.l0 : Nat → List (S23) → List (S23) → Int → Option (Bool)
 | 0, _, _, _ => none
 | k + 1, x0, x1, x5 => if x5 < (x0.length : Int) then (if 0 ≤ x5 then (if x5 < (x1.length : Int) then (if (!(((rd_T23 x0 x5).f0) == ((rd_T23 x1 x5).f0)) || (!((((rd_T23 x0 x5).f1).toList) == (((rd_T23 x1 x5).f1).toList)) || (!((((rd_T23 x0 x5).f2).toList) == (((rd_T23 x1 x5).f2).toList)) || (!((((rd_T23 x0 x5).f3).toList) == (((rd_T23 x1 x5).f3).toList)) || (!(((rd_T23 x0 x5).f4) == ((rd_T23 x1 x5).f4)) || (!((((rd_T23 x0 x5).f5).toList) == (((rd_T23 x1 x5).f5).toList)))))))) = true then (some false) else (coppiceref19_Same.l0 k x0 x1 (wrap64 (x5 + 1)))) else (none)) else (none)) else (some true)
def coppiceref19_Same.f (k : Nat) (l0 : List (S23)) (l1 : List (S23)) : Option (Bool) := if (l0.length : Int) = (l1.length : Int) then (coppiceref19_Same.l0 k l0 l1 0) else (some false)
set_option maxHeartbeats 8000000 in
set_option maxRecDepth 100000 in
theorem coppiceref19_Same.calls (k : Nat) (A0 : Option Addr) (c0 : Nat) (l0 : List (S23)) (A1 : Option Addr) (c1 : Nat) (l1 : List (S23)) (r : Bool) (w : World) (hr0 : Kd.C k23 w A0 l0.length l0) (hc0 : l0.length ≤ c0) (hr1 : Kd.C k23 w A1 l1.length l1) (hc1 : l1.length ≤ c1) (h : coppiceref19_Same.f k l0 l1 = some r) :
  Calls Tryz.prog 19 #[.slice A0 l0.length c0, .slice A1 l1.length c1] w fun e w' => e = .returned (.bool r) ∧ Drawn0 w w' := by
 have hu23 := Tryz.underlying23
 have HR0 := Aside0.mk hr0
 have HC0 := Aside0.mk hc0
 clear hr0 hc0
 have HR1 := Aside0.mk hr1
 have HC1 := Aside0.mk hc1
 clear hr1 hc1
 have H : (if (l0.length : Int) = (l1.length : Int) then (coppiceref19_Same.l0 k l0 l1 0) else (some false)) = some r := h
 clear h
 by_cases c3 : (l0.length : Int) = (l1.length : Int)
 ·rw [if_pos c3] at H
  have c3b0 : ((l0.length : Int) == (l1.length : Int)) = true := beq_iff_eq.mpr c3
  have c3b1 : ((l0.length : Int) != (l1.length : Int)) = false := bne_eq_false_iff_eq.mpr c3
  have c3b2 : (l0.length == l1.length) = true := by ((simp at c3 ⊢; omega))
  clear c3
  have H' := Aside0.mk H
  clear H
  go_enter Tryz.func19, Tryz.ntmps19
  go_wp2
  repeat (go_quiet (fail); try go_wp2)
  go_loopg [5] k (fun kq v5 w' => ∃ (x5_1 : Int), v5 = .int .i64 x5_1 ∧ Aside0 (coppiceref19_Same.l0 kq l0 l1 x5_1 = some r) ∧ Aside0 (kq ≤ k) ∧ Drawn0 w w')
  case atStart => exact ⟨(0), (by (rfl)), H', ⟨Nat.le_refl _⟩, by repeat ((exact Drawn0.refl _))⟩
  case round =>
   clear H'
   try clear c1
   try clear p2
   try clear c3
   try clear c3b0
   try clear c3b1
   try clear c3b2
   obtain ⟨x5_1, rfl, HA, HK1, ⟨m1, rfl⟩⟩ := hrel
   cases gk with
   | zero => exact absurd HA.out (by simp [coppiceref19_Same.l0])
   | succ k1 =>
    have H := HA.out
    clear HA
    simp only [coppiceref19_Same.l0] at H
    by_cases c4 : x5_1 < (l0.length : Int)
    ·rw [if_pos c4] at H
     have c4b0 : decide (x5_1 < (l0.length : Int)) = true := decide_eq_true c4
     clear c4
     by_cases c5 : 0 ≤ x5_1
     ·rw [if_pos c5] at H
      have c5b0 : decide (0 ≤ x5_1) = true := decide_eq_true c5
      clear c5
      by_cases c6 : x5_1 < (l1.length : Int)
      ·rw [if_pos c6] at H
       have c6b0 : decide (x5_1 < (l1.length : Int)) = true := decide_eq_true c6
       clear c6
       by_cases c7 : (!(((rd_T23 l0 x5_1).f0) == ((rd_T23 l1 x5_1).f0)) || (!((((rd_T23 l0 x5_1).f1).toList) == (((rd_T23 l1 x5_1).f1).toList)) || (!((((rd_T23 l0 x5_1).f2).toList) == (((rd_T23 l1 x5_1).f2).toList)) || (!((((rd_T23 l0 x5_1).f3).toList) == (((rd_T23 l1 x5_1).f3).toList)) || (!(((rd_T23 l0 x5_1).f4) == ((rd_T23 l1 x5_1).f4)) || (!((((rd_T23 l0 x5_1).f5).toList) == (((rd_T23 l1 x5_1).f5).toList)))))))) = true
       ·rw [if_pos c7] at H
        have c7b0 : (!(((rd_T23 l0 x5_1).f0) == ((rd_T23 l1 x5_1).f0)) || (!((((rd_T23 l0 x5_1).f1).toList) == (((rd_T23 l1 x5_1).f1).toList)) || (!((((rd_T23 l0 x5_1).f2).toList) == (((rd_T23 l1 x5_1).f2).toList)) || (!((((rd_T23 l0 x5_1).f3).toList) == (((rd_T23 l1 x5_1).f3).toList)) || (!(((rd_T23 l0 x5_1).f4) == ((rd_T23 l1 x5_1).f4)) || (!((((rd_T23 l0 x5_1).f5).toList) == (((rd_T23 l1 x5_1).f5).toList)))))))) = true := c7
        clear c7
        obtain rfl := Option.some.inj H
        have p264 : 0 ≤ (x5_1 : Int) := of_decide_eq_true (by ((with_reducible assumption)))
        have q264 : x5_1 < (l0.length : Int) := of_decide_eq_true (by ((with_reducible assumption)))
        obtain ⟨ad264, e264, hx264_0, hx264_1, hx264_2, hx264_3, hx264_4, hx264_5⟩ := at_T23 HR0.out x5_1 p264 q264
        cases e264
        replace p264 := eq_true p264
        replace q264 := eq_true q264
        have p265 : 0 ≤ (x5_1 : Int) := of_decide_eq_true (by ((with_reducible assumption)))
        have q265 : x5_1 < (l1.length : Int) := of_decide_eq_true (by ((with_reducible assumption)))
        obtain ⟨ad265, e265, hx265_0, hx265_1, hx265_2, hx265_3, hx265_4, hx265_5⟩ := at_T23 HR1.out x5_1 p265 q265
        cases e265
        replace p265 := eq_true p265
        replace q265 := eq_true q265
        go_wp2
        repeat (go_quiet (fail); try go_wp2)
        go_ret
        exact ⟨by (rfl), by repeat (first | exact Drawn0.refl _ | apply Drawn0.step)⟩
       ·rw [if_neg c7] at H
        have c7b0 : (!(((rd_T23 l0 x5_1).f0) == ((rd_T23 l1 x5_1).f0)) || (!((((rd_T23 l0 x5_1).f1).toList) == (((rd_T23 l1 x5_1).f1).toList)) || (!((((rd_T23 l0 x5_1).f2).toList) == (((rd_T23 l1 x5_1).f2).toList)) || (!((((rd_T23 l0 x5_1).f3).toList) == (((rd_T23 l1 x5_1).f3).toList)) || (!(((rd_T23 l0 x5_1).f4) == ((rd_T23 l1 x5_1).f4)) || (!((((rd_T23 l0 x5_1).f5).toList) == (((rd_T23 l1 x5_1).f5).toList)))))))) = false := by simpa using c7
        clear c7
        have H' := Aside0.mk H
        clear H
        have p264 : 0 ≤ (x5_1 : Int) := of_decide_eq_true (by ((with_reducible assumption)))
        have q264 : x5_1 < (l0.length : Int) := of_decide_eq_true (by ((with_reducible assumption)))
        obtain ⟨ad264, e264, hx264_0, hx264_1, hx264_2, hx264_3, hx264_4, hx264_5⟩ := at_T23 HR0.out x5_1 p264 q264
        cases e264
        replace p264 := eq_true p264
        replace q264 := eq_true q264
        have p265 : 0 ≤ (x5_1 : Int) := of_decide_eq_true (by ((with_reducible assumption)))
        have q265 : x5_1 < (l1.length : Int) := of_decide_eq_true (by ((with_reducible assumption)))
        obtain ⟨ad265, e265, hx265_0, hx265_1, hx265_2, hx265_3, hx265_4, hx265_5⟩ := at_T23 HR1.out x5_1 p265 q265
        cases e265
        replace p265 := eq_true p265
        replace q265 := eq_true q265
        go_wp2
        repeat (go_quiet (fail); try go_wp2)
        go_roundg k1
        case measure => have := HK1.out; omega
        case rel => exact ⟨(wrap64 (x5_1 + 1)), (by (rfl)), H', ⟨by have := HK1.out; omega⟩, by repeat (first | exact Drawn0.refl _ | apply Drawn0.step)⟩
      ·rw [if_neg c6] at H
       exact absurd H (by simp)
     ·rw [if_neg c5] at H
      exact absurd H (by simp)
    ·rw [if_neg c4] at H
     have c4b0 : decide (x5_1 < (l0.length : Int)) = false := decide_eq_false c4
     clear c4
     obtain rfl := Option.some.inj H
     go_wp2
     repeat (go_quiet (fail); try go_wp2)
     go_ret
     exact ⟨by (rfl), by repeat (first | exact Drawn0.refl _ | apply Drawn0.step)⟩
 ·rw [if_neg c3] at H
  have c3b0 : ((l0.length : Int) == (l1.length : Int)) = false := beq_eq_false_iff_ne.mpr c3
  have c3b1 : ((l0.length : Int) != (l1.length : Int)) = true := bne_iff_ne.mpr c3
  have c3b2 : (l0.length == l1.length) = false := by ((simp at c3 ⊢; omega))
  obtain rfl := Option.some.inj H
  go_enter Tryz.func19, Tryz.ntmps19
  go_wp2
  repeat (go_quiet (fail); try go_wp2)
  go_ret
  exact ⟨by (rfl), by repeat ((exact Drawn0.refl _))⟩

/-! ### coppiceref02_scan: function 57 -/
mutual
def coppiceref02_scan.l0 : Nat → ByteArray → Int → Int → Option (Int × Int × Int)
 | 0, _, _, _ => none
 | k + 1, x0, x5, x6 => if x6 < 10 then (if x6 ≥ (x0.size : Int) then (some (0, 0, 20)) else (if 0 ≤ x6 then (if x6 < (x0.size : Int) then (if x6 = 9 then (coppiceref02_scan.j1 k x0 x5 x6 (bt x0 x6) (decide ((bt x0 x6) > 1))) else (coppiceref02_scan.j1 k x0 x5 x6 (bt x0 x6) false)) else (none)) else (none))) else (some (0, 0, 21))
def coppiceref02_scan.j1 : Nat → ByteArray → Int → Int → Int → Bool → Option (Int × Int × Int)
 | 0, _, _, _, _, _ => none
 | k + 1, x0, x5, x6, x7, qd => if qd = true then (some (0, 0, 21)) else (if 0 ≤ (wrap64 (7 * x6)) then (if x7 < 128 then (if x7 = 0 then (if x6 > 0 then (some (0, 0, 21)) else (some (Go.bits .or .u64 x5 (shl .u64 (IntKind.u64.wrap (Go.bits .and .u8 x7 127)) (wrap64 (7 * x6))), wrap64 (x6 + 1), 0))) else (some (Go.bits .or .u64 x5 (shl .u64 (IntKind.u64.wrap (Go.bits .and .u8 x7 127)) (wrap64 (7 * x6))), wrap64 (x6 + 1), 0))) else (coppiceref02_scan.l0 k x0 (Go.bits .or .u64 x5 (shl .u64 (IntKind.u64.wrap (Go.bits .and .u8 x7 127)) (wrap64 (7 * x6)))) (wrap64 (x6 + 1)))) else (none))
end
def coppiceref02_scan.f (k : Nat) (a0 : ByteArray) : Option (Int × Int × Int) := coppiceref02_scan.l0 k a0 0 0
set_option maxHeartbeats 8000000 in
set_option maxRecDepth 100000 in
theorem coppiceref02_scan.calls (k : Nat) (a0 : ByteArray) (r1 : Int) (r2 : Int) (r3 : Int) (w : World) (h : coppiceref02_scan.f k a0 = some (r1, r2, r3)) :
  Calls Tryz.prog 57 #[.string a0] w fun e w' => e = .returned (.tuple #[.int .u64 r1, .int .i64 r2, .int .i64 r3]) ∧ Drawn0 w w' := by
 have H : (coppiceref02_scan.l0 k a0 0 0) = some (r1, r2, r3) := h
 clear h
 have H' := Aside0.mk H
 clear H
 go_enter Tryz.func57, Tryz.ntmps57
 go_wp2
 go_loopg [5, 6] k (fun kq v5 v6 w' => ∃ (x5_1 : Int) (x6_1 : Int), v5 = .int .u64 x5_1 ∧ v6 = .int .i64 x6_1 ∧ Aside0 (coppiceref02_scan.l0 kq a0 x5_1 x6_1 = some (r1, r2, r3)) ∧ Aside0 (kq ≤ k) ∧ Drawn0 w w')
 case atStart => exact ⟨(0), (0), (by (rfl)), (by (rfl)), H', ⟨Nat.le_refl _⟩, by repeat ((exact Drawn0.refl _))⟩
 case round =>
  clear H'
  obtain ⟨x5_1, x6_1, rfl, rfl, HA, HK1, ⟨m1, rfl⟩⟩ := hrel
  cases gk with
  | zero => exact absurd HA.out (by simp [coppiceref02_scan.l0])
  | succ k1 =>
   have H := HA.out
   clear HA
   simp only [coppiceref02_scan.l0] at H
   by_cases c2 : x6_1 < 10
   ·rw [if_pos c2] at H
    have c2b0 : decide (x6_1 < 10) = true := decide_eq_true c2
    clear c2
    by_cases c3 : x6_1 ≥ (a0.size : Int)
    ·rw [if_pos c3] at H
     have c3b0 : decide ((a0.size : Int) ≤ x6_1) = true := decide_eq_true c3
     clear c3
     simp only [Option.some.injEq, Prod.mk.injEq] at H
     obtain ⟨rfl, rfl, rfl⟩ := H
     go_wp2
     go_ret3
     exact ⟨by (rfl), by repeat (first | exact Drawn0.refl _ | apply Drawn0.step)⟩
    ·rw [if_neg c3] at H
     have c3b0 : decide ((a0.size : Int) ≤ x6_1) = false := decide_eq_false c3
     clear c3
     by_cases c4 : 0 ≤ x6_1
     ·rw [if_pos c4] at H
      have c4b0 : decide (0 ≤ x6_1) = true := decide_eq_true c4
      clear c4
      by_cases c5 : x6_1 < (a0.size : Int)
      ·rw [if_pos c5] at H
       have c5b0 : decide (x6_1 < (a0.size : Int)) = true := decide_eq_true c5
       clear c5
       have HC7 := Aside0.mk H
       clear H
       have p6 : 0 ≤ (x6_1 : Int) := of_decide_eq_true (by ((with_reducible assumption)))
       have q6 : x6_1 < (a0.size : Int) := of_decide_eq_true (by ((with_reducible assumption)))
       have hx6 := bt_at a0 x6_1
       replace p6 := eq_true p6
       replace q6 := eq_true q6
       go_upto_region 8 with (fail)
       go_cut [24] (fun qc wc => ∃ (kq : Nat) (qb : Bool), qc = .bool qb ∧ Aside0 (coppiceref02_scan.j1 kq a0 x5_1 x6_1 (bt a0 x6_1) qb = some (r1, r2, r3)) ∧ Aside0 (kq ≤ k1) ∧ Drawn0 w wc)
       case first =>
        have H := HC7.out
        clear HC7
        by_cases c8 : x6_1 = 9
        ·rw [if_pos c8] at H
         have c8b0 : (x6_1 == 9) = true := beq_iff_eq.mpr c8
         have c8b1 : (x6_1 != 9) = false := bne_eq_false_iff_eq.mpr c8
         clear c8
         ((skip))
         have H' := Aside0.mk H
         clear H
         go_wp2
         go_meet
         case rel => exact ⟨_, (decide ((bt a0 x6_1) > 1)), (by (rfl)), H', ⟨by have := HK1.out; (omega)⟩, by repeat (first | exact Drawn0.refl _ | apply Drawn0.step)⟩
        ·rw [if_neg c8] at H
         have c8b0 : (x6_1 == 9) = false := beq_eq_false_iff_ne.mpr c8
         have c8b1 : (x6_1 != 9) = true := bne_iff_ne.mpr c8
         ((skip))
         have H' := Aside0.mk H
         clear H
         go_wp2
         go_meet
         case rel => exact ⟨_, (false), (by (rfl)), H', ⟨by have := HK1.out; (omega)⟩, by repeat (first | exact Drawn0.refl _ | apply Drawn0.step)⟩
       case rest =>
        clear HC7
        try clear c2
        try clear c2b0
        try clear p2
        try clear c3
        try clear c3b0
        try clear c4
        try clear c4b0
        try clear c5
        try clear c5b0
        try clear p6
        try clear q6
        try clear hx6
        try clear c8
        try clear c8b0
        try clear c8b1
        try clear p6
        try clear q6
        obtain ⟨kq, qb, rfl, HA, HJ6, ⟨mc6, rfl⟩⟩ := hcut
        cases kq with
        | zero => exact absurd HA.out (by simp [coppiceref02_scan.j1])
        | succ kj6 =>
         have H := HA.out
         clear HA
         simp only [coppiceref02_scan.j1] at H
         by_cases c9 : qb = true
         ·subst c9
          have H1 : (some (0, 0, 21)) = some (r1, r2, r3) := by rw [if_pos rfl] at H; exact H
          clear H
          have H := H1
          clear H1
          simp only [Option.some.injEq, Prod.mk.injEq] at H
          obtain ⟨rfl, rfl, rfl⟩ := H
          go_wp2
          go_ret3
          exact ⟨by (rfl), by repeat (first | exact Drawn0.refl _ | apply Drawn0.step)⟩
         ·replace c9 := Bool.eq_false_iff.mpr c9
          subst c9
          have H1 : (if 0 ≤ (wrap64 (7 * x6_1)) then (if (bt a0 x6_1) < 128 then (if (bt a0 x6_1) = 0 then (if x6_1 > 0 then (some (0, 0, 21)) else (some (Go.bits .or .u64 x5_1 (shl .u64 (IntKind.u64.wrap (Go.bits .and .u8 (bt a0 x6_1) 127)) (wrap64 (7 * x6_1))), wrap64 (x6_1 + 1), 0))) else (some (Go.bits .or .u64 x5_1 (shl .u64 (IntKind.u64.wrap (Go.bits .and .u8 (bt a0 x6_1) 127)) (wrap64 (7 * x6_1))), wrap64 (x6_1 + 1), 0))) else (coppiceref02_scan.l0 kj6 a0 (Go.bits .or .u64 x5_1 (shl .u64 (IntKind.u64.wrap (Go.bits .and .u8 (bt a0 x6_1) 127)) (wrap64 (7 * x6_1)))) (wrap64 (x6_1 + 1)))) else (none)) = some (r1, r2, r3) := by rw [if_neg (show ¬ (false = true) by decide)] at H; exact H
          clear H
          have H := H1
          clear H1
          obtain ⟨ji10, hji10⟩ : ∃ j_ : Int, (wrap64 (7 * x6_1)) = j_ := ⟨_, rfl⟩
          replace H : (if 0 ≤ (ji10) then (if (bt a0 x6_1) < 128 then (if (bt a0 x6_1) = 0 then (if x6_1 > 0 then (some (0, 0, 21)) else (some (Go.bits .or .u64 x5_1 (shl .u64 (IntKind.u64.wrap (Go.bits .and .u8 (bt a0 x6_1) 127)) (ji10)), wrap64 (x6_1 + 1), 0))) else (some (Go.bits .or .u64 x5_1 (shl .u64 (IntKind.u64.wrap (Go.bits .and .u8 (bt a0 x6_1) 127)) (ji10)), wrap64 (x6_1 + 1), 0))) else (coppiceref02_scan.l0 kj6 a0 (Go.bits .or .u64 x5_1 (shl .u64 (IntKind.u64.wrap (Go.bits .and .u8 (bt a0 x6_1) 127)) (ji10))) (wrap64 (x6_1 + 1)))) else (none)) = some (r1, r2, r3) := by ((rw [hji10] at H; exact H))
          have hji10w : (IntKind.i64.wrap (7 * x6_1)) = ji10 := (i64_w _).trans hji10
          by_cases c11 : 0 ≤ (ji10)
          ·rw [if_pos c11] at H
           have c11b0 := eq_true c11
           have c11b1 : decide (0 ≤ (ji10)) = true := decide_eq_true c11
           clear c11
           obtain ⟨ji12, hji12⟩ : ∃ j_ : Int, (shl .u64 (IntKind.u64.wrap (Go.bits .and .u8 (bt a0 x6_1) 127)) (ji10)) = j_ := ⟨_, rfl⟩
           replace H : (if (bt a0 x6_1) < 128 then (if (bt a0 x6_1) = 0 then (if x6_1 > 0 then (some (0, 0, 21)) else (some (Go.bits .or .u64 x5_1 (ji12), wrap64 (x6_1 + 1), 0))) else (some (Go.bits .or .u64 x5_1 (ji12), wrap64 (x6_1 + 1), 0))) else (coppiceref02_scan.l0 kj6 a0 (Go.bits .or .u64 x5_1 (ji12)) (wrap64 (x6_1 + 1)))) = some (r1, r2, r3) := by ((rw [hji12] at H; exact H))
           have hji12_ : (IntKind.u64.wrap ((IntKind.u64.wrap (Go.bits .and .u8 (bt a0 x6_1) 127)) * 2 ^ min (ji10).toNat 64)) = ji12 := hji12
           have hji12z : (ji10) ≤ 64 → (IntKind.u64.wrap ((IntKind.u64.wrap (Go.bits .and .u8 (bt a0 x6_1) 127)) * 2 ^ (ji10).toNat)) = ji12 := shl_small hji12
           by_cases c13 : (bt a0 x6_1) < 128
           ·rw [if_pos c13] at H
            have c13b0 : decide ((bt a0 x6_1) < 128) = true := decide_eq_true c13
            clear c13
            by_cases c14 : (bt a0 x6_1) = 0
            ·rw [if_pos c14] at H
             have c14b0 : ((bt a0 x6_1) == 0) = true := beq_iff_eq.mpr c14
             have c14b1 : ((bt a0 x6_1) != 0) = false := bne_eq_false_iff_eq.mpr c14
             clear c14
             by_cases c15 : x6_1 > 0
             ·rw [if_pos c15] at H
              have c15b0 : decide (0 < x6_1) = true := decide_eq_true c15
              clear c15
              simp only [Option.some.injEq, Prod.mk.injEq] at H
              obtain ⟨rfl, rfl, rfl⟩ := H
              go_wp2
              go_ret3
              exact ⟨by (rfl), by repeat (first | exact Drawn0.refl _ | apply Drawn0.step)⟩
             ·rw [if_neg c15] at H
              have c15b0 : decide (0 < x6_1) = false := decide_eq_false c15
              clear c15
              simp only [Option.some.injEq, Prod.mk.injEq] at H
              obtain ⟨rfl, rfl, rfl⟩ := H
              go_wp2
              go_ret3
              exact ⟨by (rfl), by repeat (first | exact Drawn0.refl _ | apply Drawn0.step)⟩
            ·rw [if_neg c14] at H
             have c14b0 : ((bt a0 x6_1) == 0) = false := beq_eq_false_iff_ne.mpr c14
             have c14b1 : ((bt a0 x6_1) != 0) = true := bne_iff_ne.mpr c14
             simp only [Option.some.injEq, Prod.mk.injEq] at H
             obtain ⟨rfl, rfl, rfl⟩ := H
             go_wp2
             go_ret3
             exact ⟨by (rfl), by repeat (first | exact Drawn0.refl _ | apply Drawn0.step)⟩
           ·rw [if_neg c13] at H
            have c13b0 : decide ((bt a0 x6_1) < 128) = false := decide_eq_false c13
            clear c13
            have H' := Aside0.mk H
            clear H
            go_wp2
            go_roundg kj6
            case measure => have := HK1.out; have := HJ6.out; omega
            case rel => exact ⟨(Go.bits .or .u64 x5_1 (ji12)), (wrap64 (x6_1 + 1)), (by (rfl)), (by (rfl)), H', ⟨by have := HK1.out; have := HJ6.out; omega⟩, by repeat (first | exact Drawn0.refl _ | apply Drawn0.step)⟩
          ·rw [if_neg c11] at H
           exact absurd H (by simp)
      ·rw [if_neg c5] at H
       exact absurd H (by simp)
     ·rw [if_neg c4] at H
      exact absurd H (by simp)
   ·rw [if_neg c2] at H
    have c2b0 : decide (x6_1 < 10) = false := decide_eq_false c2
    clear c2
    simp only [Option.some.injEq, Prod.mk.injEq] at H
    obtain ⟨rfl, rfl, rfl⟩ := H
    go_wp2
    go_ret3
    exact ⟨by (rfl), by repeat (first | exact Drawn0.refl _ | apply Drawn0.step)⟩

end Go.Proofs.YtofdpgcnconibaaGreatDoor.PA
-- WRITTEN BY a program of this session (pp.sh)
namespace Go.Proofs.YtofdpgcnconibaaGreatDoor.PA
open Go.RowKit Go.Proofs.YtofdpgcnconibaaGreatDoorW.PrintWords Go.Proofs.YtofdpgcnconibaaGreatDoorW.PrintLast Go.Proofs.YtofdpgcnconibaaGreatDoorW.PrintMore Go.Proofs.YtofdpgcnconibaaGreatDoor.Plain
attribute [local go_sem] max2_int min2_int max_two min_two max_three min_three max_four min_four binOp_leq_s binOp_gtr_s binOp_geq_s lit_byte   -- for this text's walks alone
set_option linter.unusedVariables false
set_option linter.unusedSimpArgs false

/-- A state of type 69 at block g of W; what its slices lead to came in by w0. -/
def IsS69 (w0 W : World) (g : Nat) (f0 : ByteArray) (f1 : Int) : Prop := W.heap[g]? = some (.cells #[.string f0, .int .i64 f1] 69 (0, 0)) ∧ w0.heap.size ≤ g
theorem IsS69.grown {w0 W : World} {g : Nat} {f0 : ByteArray} {f1 : Int} {W1 : World} {row : Option Nat} (h : IsS69 w0 W g f0 f1) (hw : W.grownBy W1 row) (hne : some g ≠ row) : IsS69 w0 W1 g f0 f1 := by
 obtain ⟨hb, hg⟩ := h
 exact ⟨blk_grown hb hw hne, hg⟩
theorem IsS69.below {w0 W : World} {g : Nat} {f0 : ByteArray} {f1 : Int} {W1 : World} (h : IsS69 w0 W g f0 f1) (hw : Below W.heap.size W W1) : IsS69 w0 W1 g f0 f1 := h.grown (grown_of_below hw none) (by simp)
theorem IsS69.alloc {w0 W : World} {g : Nat} {f0 : ByteArray} {f1 : Int} (h : IsS69 w0 W g f0 f1) (o : Obj) : IsS69 w0 (W.alloc o) g f0 f1 := h.below (below_alloc (Below.refl _ _) o)
theorem IsS69.drewN {w0 W : World} {g : Nat} {f0 : ByteArray} {f1 : Int} (h : IsS69 w0 W g f0 f1) (m : Nat) : IsS69 w0 (W.drewN m) g f0 f1 := h
theorem IsS69.drew {w0 W : World} {g : Nat} {f0 : ByteArray} {f1 : Int} (h : IsS69 w0 W g f0 f1) : IsS69 w0 W.drew g f0 f1 := h
theorem IsS69.at_ {w0 W : World} {g : Nat} {f0 : ByteArray} {f1 : Int} {w' : World} {m : Nat} (hq : W.drewN m = w') (h : IsS69 w0 W g f0 f1) : IsS69 w0 w' g f0 f1 := by subst hq; exact IsS69.drewN h m
theorem IsS69.apart {w0 W : World} {g : Nat} {f0 : ByteArray} {f1 : Int} {α : Type} {d : Kd α} {e : Nat} {base : Nat} {ok : Nat → Prop} {v : Value} {xs : List α} (h : IsS69 w0 W g f0 f1) (ho : d.R e W base ok v xs) (ht : ∀ q, q ∈ e :: d.E → q ≠ 69) : d.R e W base (fun k => ok k ∧ k ≠ g) v xs := by
 obtain ⟨hb, hg⟩ := h
 exact Kd.R_types ho hb ht
theorem IsS69.own_ne {w0 W : World} {g : Nat} {f0 : ByteArray} {f1 : Int} {α : Type} {d : Kd α} {e : Nat} {base : Nat} {ok : Nat → Prop} {v : Value} {xs : List α} (h : IsS69 w0 W g f0 f1) (ho : d.R e W base ok v xs) (ht : e ≠ 69) : some g ≠ v.ownBlock := by
 obtain ⟨hb, hg⟩ := h
 exact Kd.R_ne ho hb ht
theorem IsS69.lt {w0 W : World} {g : Nat} {f0 : ByteArray} {f1 : Int} (h : IsS69 w0 W g f0 f1) : g < W.heap.size := by
 obtain ⟨hb, hg⟩ := h
 exact blk_lt hb
theorem IsS69.ge {w0 W : World} {g : Nat} {f0 : ByteArray} {f1 : Int} (h : IsS69 w0 W g f0 f1) : w0.heap.size ≤ g := by
 obtain ⟨hb, hg⟩ := h
 exact hg
theorem cellS69_0 {W : World} {g : Nat} {f0 : ByteArray} {f1 : Int} (h : W.heap[g]? = some (.cells #[.string f0, .int .i64 f1] 69 (0, 0))) : W.cell? ⟨g, 0, none⟩ = some (.string f0) := (blk_cell h 0).trans rfl
theorem IsS69.set_0 {w0 W : World} {g : Nat} {f0 : ByteArray} {f1 : Int} (h : IsS69 w0 W g f0 f1) (x : ByteArray) : IsS69 w0 (W.setCell ⟨g, 0, none⟩ (.string x)) g x f1 := by
 obtain ⟨hb, hg⟩ := h
 exact ⟨by simpa using blk_set hb 0 (.string x), hg⟩
theorem cellS69_1 {W : World} {g : Nat} {f0 : ByteArray} {f1 : Int} (h : W.heap[g]? = some (.cells #[.string f0, .int .i64 f1] 69 (0, 0))) : W.cell? ⟨g, 1, none⟩ = some (.int .i64 f1) := (blk_cell h 1).trans rfl
theorem IsS69.set_1 {w0 W : World} {g : Nat} {f0 : ByteArray} {f1 : Int} (h : IsS69 w0 W g f0 f1) (x : Int) : IsS69 w0 (W.setCell ⟨g, 1, none⟩ (.int .i64 x)) g f0 x := by
 obtain ⟨hb, hg⟩ := h
 exact ⟨by simpa using blk_set hb 1 (.int .i64 x), hg⟩
/-! ### coppiceref02_Reader_Short: function 30 -/
def coppiceref02_Reader_Short.f (k : Nat) (s0_0 : ByteArray) (s0_1 : Int) : Option (Int × ByteArray × Int) := if s0_1 = 0 then ((coppiceref02_scan.f k s0_0).bind fun bt266 => (if 0 ≤ bt266.2.1 then (if bt266.2.1 ≤ (s0_0.size : Int) then (some (bt266.1, s0_0.extract (bt266.2.1 : Int).toNat s0_0.size, bt266.2.2)) else (none)) else (none))) else (some (0, s0_0, s0_1))
set_option maxHeartbeats 8000000 in
set_option maxRecDepth 100000 in
theorem coppiceref02_Reader_Short.calls (k : Nat) (g : Nat) (s0_0 : ByteArray) (s0_1 : Int) (r1 : Int) (r2 : ByteArray) (r3 : Int) (w0 w : World) (hI : IsS69 w0 w g s0_0 s0_1) (hB : Below w0.heap.size w0 w) (h : coppiceref02_Reader_Short.f k s0_0 s0_1 = some (r1, r2, r3)) :
  Calls Tryz.prog 30 #[.pointer (some ⟨g, 0, none⟩)] w fun e w' => e = .returned (.int .u64 r1) ∧ IsS69 w0 w' g r2 r3 ∧ Below w0.heap.size w0 w' ∧ KeepBut w w' g none := by
 have HI0 := Aside0.mk hI
 have HK := Aside0.mk (KeepBut.refl w g none)
 have HL := Aside0.mk hB.size
 clear hI
 have HW0 := Aside0.mk hB.size
 have HB := Aside0.mk hB
 clear hB
 have H : (if s0_1 = 0 then ((coppiceref02_scan.f k s0_0).bind fun qc => (if 0 ≤ qc.2.1 then (if qc.2.1 ≤ (s0_0.size : Int) then (some (qc.1, s0_0.extract (qc.2.1 : Int).toNat s0_0.size, qc.2.2)) else (none)) else (none))) else (some (0, s0_0, s0_1))) = some (r1, r2, r3) := h
 clear h
 by_cases c2 : s0_1 = 0
 ·rw [if_pos c2] at H
  have c2b0 : (s0_1 == 0) = true := beq_iff_eq.mpr c2
  have c2b1 : (s0_1 != 0) = false := bne_eq_false_iff_eq.mpr c2
  clear c2
  replace H := Option.bind_eq_some_iff.mp H
  obtain ⟨⟨qe, qb, qd⟩, A30, H⟩ := H
  replace H : (if 0 ≤ qb then (if qb ≤ (s0_0.size : Int) then (some (qe, s0_0.extract (qb : Int).toNat s0_0.size, qd)) else (none)) else (none)) = some (r1, r2, r3) := H
  have A3 := Aside0.mk A30
  clear A30
  by_cases c4 : 0 ≤ qb
  ·rw [if_pos c4] at H
   have c4b0 := eq_true c4
   have c4b1 : decide (0 ≤ qb) = true := decide_eq_true c4
   clear c4
   by_cases c5 : qb ≤ (s0_0.size : Int)
   ·rw [if_pos c5] at H
    have c5b0 := eq_true c5
    have c5b1 : decide (qb ≤ (s0_0.size : Int)) = true := decide_eq_true c5
    clear c5
    simp only [Option.some.injEq, Prod.mk.injEq] at H
    obtain ⟨rfl, rfl, rfl⟩ := H
    obtain ⟨HGz6, hgz6⟩ := HI0.out
    have hcz6_0 := cellS69_0 HGz6
    have hcz6_1 := cellS69_1 HGz6
    have hfz6_0 := blk_frozen HGz6 0
    have hfz6_1 := blk_frozen HGz6 1
    clear HGz6 hgz6
    go_enter Tryz.func30, Tryz.ntmps30
    go_wp2_with (first | ((with_reducible refine gate_callee (f := 57) rfl ?_); refine goesL_ (some 16) rfl rfl Tryz.func57 (by kernel_rfl) rfl #[.string s0_0] rfl (by (try simp only [List.map_toArray, List.map_cons, List.map_nil]); (rfl)) ?_; (with_reducible refine (coppiceref02_scan.calls k s0_0 qe qb qd _ A3.out).mono ?_); rintro e w' ⟨rfl, ⟨nd, rfl⟩⟩; refine ⟨_, rfl, ?_⟩))
    go_ret
    exact ⟨by (rfl), by repeat (((with_reducible first | exact HI0.out | apply IsS69.drewN | apply IsS69.set_0 | apply IsS69.set_1))), by repeat (((with_reducible first | exact HB.out | apply pw_below_drewN | refine below_set ?_ (IsS69.ge HI0.out)))), by repeat (((with_reducible first | exact HK.out | apply KeepBut.set_ | apply keep_drewN )))⟩
   ·rw [if_neg c5] at H
    exact absurd H (by simp)
  ·rw [if_neg c4] at H
   exact absurd H (by simp)
 ·rw [if_neg c2] at H
  have c2b0 : (s0_1 == 0) = false := beq_eq_false_iff_ne.mpr c2
  have c2b1 : (s0_1 != 0) = true := bne_iff_ne.mpr c2
  simp only [Option.some.injEq, Prod.mk.injEq] at H
  obtain ⟨rfl, rfl, rfl⟩ := H
  obtain ⟨HGz7, hgz7⟩ := HI0.out
  have hcz7_0 := cellS69_0 HGz7
  have hcz7_1 := cellS69_1 HGz7
  have hfz7_0 := blk_frozen HGz7 0
  have hfz7_1 := blk_frozen HGz7 1
  clear HGz7 hgz7
  go_enter Tryz.func30, Tryz.ntmps30
  go_wp2
  go_ret
  exact ⟨by (rfl), by repeat (((with_reducible (exact HI0.out)))), by repeat (((with_reducible (exact HB.out)))), by repeat (((with_reducible (exact HK.out))))⟩

/-! ### coppiceref02_Reader_Byte: function 58 -/
def coppiceref02_Reader_Byte.f (s0_0 : ByteArray) (s0_1 : Int) : Option (Int × ByteArray × Int) := if s0_1 = 0 then (if s0_0.toList = ([] : List UInt8) then (some (0, s0_0, 20)) else (if 0 < (s0_0.size : Int) then (if 1 ≤ (s0_0.size : Int) then (some (bt s0_0 0, s0_0.extract 1 s0_0.size, s0_1)) else (none)) else (none))) else (some (0, s0_0, s0_1))
set_option maxHeartbeats 8000000 in
set_option maxRecDepth 100000 in
theorem coppiceref02_Reader_Byte.calls (g : Nat) (s0_0 : ByteArray) (s0_1 : Int) (r1 : Int) (r2 : ByteArray) (r3 : Int) (w0 w : World) (hI : IsS69 w0 w g s0_0 s0_1) (hB : Below w0.heap.size w0 w) (h : coppiceref02_Reader_Byte.f s0_0 s0_1 = some (r1, r2, r3)) :
  Calls Tryz.prog 58 #[.pointer (some ⟨g, 0, none⟩)] w fun e w' => e = .returned (.int .u8 r1) ∧ IsS69 w0 w' g r2 r3 ∧ Below w0.heap.size w0 w' ∧ KeepBut w w' g none := by
 have HI0 := Aside0.mk hI
 have HK := Aside0.mk (KeepBut.refl w g none)
 have HL := Aside0.mk hB.size
 clear hI
 have HW0 := Aside0.mk hB.size
 have HB := Aside0.mk hB
 clear hB
 have H : (if s0_1 = 0 then (if s0_0.toList = ([] : List UInt8) then (some (0, s0_0, 20)) else (if 0 < (s0_0.size : Int) then (if 1 ≤ (s0_0.size : Int) then (some (bt s0_0 0, s0_0.extract 1 s0_0.size, s0_1)) else (none)) else (none))) else (some (0, s0_0, s0_1))) = some (r1, r2, r3) := h
 clear h
 by_cases c2 : s0_1 = 0
 ·rw [if_pos c2] at H
  have c2b0 : (s0_1 == 0) = true := beq_iff_eq.mpr c2
  have c2b1 : (s0_1 != 0) = false := bne_eq_false_iff_eq.mpr c2
  clear c2
  by_cases c3 : s0_0.toList = ([] : List UInt8)
  ·rw [if_pos c3] at H
   have c3b0 : (s0_0.toList == ([] : List UInt8)) = true := beq_iff_eq.mpr c3
   have c3b1 : (s0_0.toList != ([] : List UInt8)) = false := bne_eq_false_iff_eq.mpr c3
   clear c3
   simp only [Option.some.injEq, Prod.mk.injEq] at H
   obtain ⟨rfl, rfl, rfl⟩ := H
   obtain ⟨HGz4, hgz4⟩ := HI0.out
   have hcz4_0 := cellS69_0 HGz4
   have hcz4_1 := cellS69_1 HGz4
   have hfz4_0 := blk_frozen HGz4 0
   have hfz4_1 := blk_frozen HGz4 1
   clear HGz4 hgz4
   go_enter Tryz.func58, Tryz.ntmps58
   go_wp2
   go_ret
   exact ⟨by (rfl), by repeat (((with_reducible first | exact HI0.out | apply IsS69.set_1))), by repeat (((with_reducible first | exact HB.out | refine below_set ?_ (IsS69.ge HI0.out)))), by repeat (((with_reducible first | exact HK.out | apply KeepBut.set_ )))⟩
  ·rw [if_neg c3] at H
   have c3b0 : (s0_0.toList == ([] : List UInt8)) = false := beq_eq_false_iff_ne.mpr c3
   have c3b1 : (s0_0.toList != ([] : List UInt8)) = true := bne_iff_ne.mpr c3
   by_cases c5 : 0 < (s0_0.size : Int)
   ·rw [if_pos c5] at H
    have c5b0 : decide (0 < (s0_0.size : Int)) = true := decide_eq_true c5
    have c5b1 : decide (0 < s0_0.size) = true := decide_eq_true (by omega)
    clear c5
    by_cases c7 : 1 ≤ (s0_0.size : Int)
    ·rw [if_pos c7] at H
     have c7b0 := eq_true c7
     have c7b1 : decide (1 ≤ (s0_0.size : Int)) = true := decide_eq_true c7
     clear c7
     simp only [Option.some.injEq, Prod.mk.injEq] at H
     obtain ⟨rfl, rfl, rfl⟩ := H
     obtain ⟨HGz8, hgz8⟩ := HI0.out
     have hcz8_0 := cellS69_0 HGz8
     have hcz8_1 := cellS69_1 HGz8
     have hfz8_0 := blk_frozen HGz8 0
     have hfz8_1 := blk_frozen HGz8 1
     clear HGz8 hgz8
     have p6 : 0 ≤ (0 : Int) := (by omega)
     have q6 : 0 < s0_0.size := (by have : (0 : Int) < (s0_0.size : Int) := of_decide_eq_true (by ((with_reducible assumption))); omega)
     have hx6 : ∀ h : 0 < s0_0.size, ((s0_0[0]'h).toNat : Int) = bt s0_0 0 := bt_at s0_0 0
     clear p6
     have qi6 : (0 < (s0_0.size : Int)) = True := eq_true (of_decide_eq_true (by ((with_reducible assumption))))
     replace q6 := eq_true q6
     go_enter Tryz.func58, Tryz.ntmps58
     go_wp2
     go_ret
     exact ⟨by (rfl), by repeat (((with_reducible first | exact HI0.out | apply IsS69.set_0 ))), by repeat (((with_reducible first | exact HB.out | refine below_set ?_ (IsS69.ge HI0.out)))), by repeat (((with_reducible first | exact HK.out | apply KeepBut.set_ )))⟩
    ·rw [if_neg c7] at H
     exact absurd H (by simp)
   ·rw [if_neg c5] at H
    exact absurd H (by simp)
 ·rw [if_neg c2] at H
  have c2b0 : (s0_1 == 0) = false := beq_eq_false_iff_ne.mpr c2
  have c2b1 : (s0_1 != 0) = true := bne_iff_ne.mpr c2
  simp only [Option.some.injEq, Prod.mk.injEq] at H
  obtain ⟨rfl, rfl, rfl⟩ := H
  obtain ⟨HGz9, hgz9⟩ := HI0.out
  have hcz9_0 := cellS69_0 HGz9
  have hcz9_1 := cellS69_1 HGz9
  have hfz9_0 := blk_frozen HGz9 0
  have hfz9_1 := blk_frozen HGz9 1
  clear HGz9 hgz9
  go_enter Tryz.func58, Tryz.ntmps58
  go_wp2
  go_ret
  exact ⟨by (rfl), by repeat (((with_reducible (exact HI0.out)))), by repeat (((with_reducible (exact HB.out)))), by repeat (((with_reducible (exact HK.out))))⟩

end Go.Proofs.YtofdpgcnconibaaGreatDoor.PA
-- WRITTEN BY a program of this session (pp.sh)
namespace Go.Proofs.YtofdpgcnconibaaGreatDoor.PA
open Go.RowKit Go.Proofs.YtofdpgcnconibaaGreatDoorW.PrintWords Go.Proofs.YtofdpgcnconibaaGreatDoorW.PrintLast Go.Proofs.YtofdpgcnconibaaGreatDoorW.PrintMore Go.Proofs.YtofdpgcnconibaaGreatDoor.Plain
attribute [local go_sem] max2_int min2_int max_two min_two max_three min_three max_four min_four binOp_leq_s binOp_gtr_s binOp_geq_s lit_byte   -- for this text's walks alone
set_option linter.unusedVariables false
set_option linter.unusedSimpArgs false

/-! ### coppiceref02_Reader_Text: function 59 -/
mutual
def coppiceref02_Reader_Text.j0 : Nat → Int → Int → Int → Bool → ByteArray → Int → Option (ByteArray × ByteArray × Int)
 | 0, _, _, _, _, _, _ => none
 | k + 1, x5, x6, x7, x34, x1000, x1001 => if x34 = true then (coppiceref02_Reader_Text.j1 k x5 x6 22 x1000 x1001) else (coppiceref02_Reader_Text.j1 k x5 x6 x7 x1000 x1001)
def coppiceref02_Reader_Text.j1 : Nat → Int → Int → Int → ByteArray → Int → Option (ByteArray × ByteArray × Int)
 | 0, _, _, _, _, _ => none
 | k + 1, x5, x6, x7, x1000, x1001 => if x7 = 0 then (coppiceref02_Reader_Text.j2 k x5 x6 x7 (decide (x5 > (IntKind.u64.wrap (wrap64 ((x1000.size : Int) - x6))))) x1000 x1001) else (coppiceref02_Reader_Text.j2 k x5 x6 x7 false x1000 x1001)
def coppiceref02_Reader_Text.j2 : Nat → Int → Int → Int → Bool → ByteArray → Int → Option (ByteArray × ByteArray × Int)
 | 0, _, _, _, _, _, _ => none
 | k + 1, x5, x6, x7, x48, x1000, x1001 => if x48 = true then (some ((⟨#[]⟩ : ByteArray), x1000, 20)) else (if x7 = 0 then (if 0 ≤ x6 then (if x6 ≤ (wrap64 (x6 + (wrap64 (x5)))) then (if (wrap64 (x6 + (wrap64 (x5)))) ≤ (x1000.size : Int) then (if 0 ≤ (wrap64 (x6 + (wrap64 (x5)))) then (some (x1000.extract (x6 : Int).toNat ((wrap64 (x6 + (wrap64 (x5)))) : Int).toNat, x1000.extract ((wrap64 (x6 + (wrap64 (x5)))) : Int).toNat x1000.size, x1001)) else (none)) else (none)) else (none)) else (none)) else (some ((⟨#[]⟩ : ByteArray), x1000, x7)))
end
def coppiceref02_Reader_Text.f (k : Nat) (s0_0 : ByteArray) (s0_1 : Int) (a1 : Int) : Option (ByteArray × ByteArray × Int) := if s0_1 = 0 then ((coppiceref02_scan.f k s0_0).bind fun bt269 => (if bt269.2.2 = 0 then (if a1 < 0 then (coppiceref02_Reader_Text.j0 k bt269.1 bt269.2.1 bt269.2.2 true s0_0 s0_1) else (coppiceref02_Reader_Text.j0 k bt269.1 bt269.2.1 bt269.2.2 (decide (bt269.1 > (IntKind.u64.wrap (a1)))) s0_0 s0_1)) else (coppiceref02_Reader_Text.j0 k bt269.1 bt269.2.1 bt269.2.2 false s0_0 s0_1))) else (some ((⟨#[]⟩ : ByteArray), s0_0, s0_1))
set_option maxHeartbeats 8000000 in
set_option maxRecDepth 100000 in
theorem coppiceref02_Reader_Text.calls (k : Nat) (g : Nat) (s0_0 : ByteArray) (s0_1 : Int) (a1 : Int) (r1 : ByteArray) (r2 : ByteArray) (r3 : Int) (w0 w : World) (hI : IsS69 w0 w g s0_0 s0_1) (hB : Below w0.heap.size w0 w) (h : coppiceref02_Reader_Text.f k s0_0 s0_1 a1 = some (r1, r2, r3)) :
  Calls Tryz.prog 59 #[.pointer (some ⟨g, 0, none⟩), .int .i64 a1] w fun e w' => e = .returned (.string r1) ∧ IsS69 w0 w' g r2 r3 ∧ Below w0.heap.size w0 w' ∧ KeepBut w w' g none := by
 have HI0 := Aside0.mk hI
 have HK := Aside0.mk (KeepBut.refl w g none)
 have HL := Aside0.mk hB.size
 clear hI
 have HW0 := Aside0.mk hB.size
 have HB := Aside0.mk hB
 clear hB
 have H : (if s0_1 = 0 then ((coppiceref02_scan.f k s0_0).bind fun qd => (if qd.2.2 = 0 then (if a1 < 0 then (coppiceref02_Reader_Text.j0 k qd.1 qd.2.1 qd.2.2 true s0_0 s0_1) else (coppiceref02_Reader_Text.j0 k qd.1 qd.2.1 qd.2.2 (decide (qd.1 > (IntKind.u64.wrap (a1)))) s0_0 s0_1)) else (coppiceref02_Reader_Text.j0 k qd.1 qd.2.1 qd.2.2 false s0_0 s0_1))) else (some ((⟨#[]⟩ : ByteArray), s0_0, s0_1))) = some (r1, r2, r3) := h
 clear h
 by_cases c3 : s0_1 = 0
 ·rw [if_pos c3] at H
  have c3b0 : (s0_1 == 0) = true := beq_iff_eq.mpr c3
  have c3b1 : (s0_1 != 0) = false := bne_eq_false_iff_eq.mpr c3
  clear c3
  replace H := Option.bind_eq_some_iff.mp H
  obtain ⟨⟨qc, qb, qe⟩, A40, H⟩ := H
  replace H : (if qe = 0 then (if a1 < 0 then (coppiceref02_Reader_Text.j0 k qc qb qe true s0_0 s0_1) else (coppiceref02_Reader_Text.j0 k qc qb qe (decide (qc > (IntKind.u64.wrap (a1)))) s0_0 s0_1)) else (coppiceref02_Reader_Text.j0 k qc qb qe false s0_0 s0_1)) = some (r1, r2, r3) := H
  have A4 := Aside0.mk A40
  clear A40
  have HC5 := Aside0.mk H
  clear H
  obtain ⟨HGz6, hgz6⟩ := HI0.out
  have hcz6_0 := cellS69_0 HGz6
  have hcz6_1 := cellS69_1 HGz6
  have hfz6_0 := blk_frozen HGz6 0
  have hfz6_1 := blk_frozen HGz6 1
  clear HGz6 hgz6
  go_enter Tryz.func59, Tryz.ntmps59
  go_upto_region 4 with (first | ((with_reducible refine gate_callee (f := 57) rfl ?_); refine goesL_ (some 19) rfl rfl Tryz.func57 (by kernel_rfl) rfl #[.string s0_0] rfl (by (try simp only [List.map_toArray, List.map_cons, List.map_nil]); (rfl)) ?_; (with_reducible refine (coppiceref02_scan.calls k s0_0 qc qb qe _ A4.out).mono ?_); rintro e w' ⟨rfl, ⟨nd, rfl⟩⟩; refine ⟨_, rfl, ?_⟩))
  (try simp only [Act.put, List.setIfInBounds_toArray, List.set_cons_zero, List.set_cons_succ])
  go_cut [34] (fun qj wc => ∃ (kq : Nat) (qg : Bool), qj = .bool qg ∧ Aside0 (coppiceref02_Reader_Text.j0 kq qc qb qe qg s0_0 s0_1 = some (r1, r2, r3)) ∧ Aside0 (kq ≤ k) ∧ Aside0 (IsS69 w0 wc g s0_0 s0_1) ∧ Aside0 (KeepBut w wc g none) ∧ Aside0 (Below w0.heap.size w0 wc))
  case first =>
   have H := HC5.out
   clear HC5
   by_cases c7 : qe = 0
   ·rw [if_pos c7] at H
    have c7b0 : (qe == 0) = true := beq_iff_eq.mpr c7
    have c7b1 : (qe != 0) = false := bne_eq_false_iff_eq.mpr c7
    clear c7
    ((skip))
    by_cases c8 : a1 < 0
    ·rw [if_pos c8] at H
     have c8b0 : decide (a1 < 0) = true := decide_eq_true c8
     clear c8
     have H' := Aside0.mk H
     clear H
     go_wp2
     go_meet
     case rel => exact ⟨_, (true), (by (rfl)), H', ⟨by (omega)⟩, ⟨by repeat (((with_reducible first | exact HI0.out | apply IsS69.drewN )))⟩, ⟨by repeat (((with_reducible first | exact HK.out | apply keep_drewN )))⟩, ⟨by repeat (((with_reducible first | exact HB.out | apply pw_below_drewN )))⟩⟩
    ·rw [if_neg c8] at H
     have c8b0 : decide (a1 < 0) = false := decide_eq_false c8
     clear c8
     have H' := Aside0.mk H
     clear H
     go_wp2
     go_meet
     case rel => exact ⟨_, (decide (qc > (IntKind.u64.wrap (a1)))), (by (rfl)), H', ⟨by (omega)⟩, ⟨by repeat (((with_reducible first | exact HI0.out | apply IsS69.drewN )))⟩, ⟨by repeat (((with_reducible first | exact HK.out | apply keep_drewN )))⟩, ⟨by repeat (((with_reducible first | exact HB.out | apply pw_below_drewN )))⟩⟩
   ·rw [if_neg c7] at H
    have c7b0 : (qe == 0) = false := beq_eq_false_iff_ne.mpr c7
    have c7b1 : (qe != 0) = true := bne_iff_ne.mpr c7
    ((skip))
    have H' := Aside0.mk H
    clear H
    go_wp2
    go_meet
    case rel => exact ⟨_, (false), (by (rfl)), H', ⟨by (omega)⟩, ⟨by repeat (((with_reducible first | exact HI0.out | apply IsS69.drewN )))⟩, ⟨by repeat (((with_reducible first | exact HK.out | apply keep_drewN )))⟩, ⟨by repeat (((with_reducible first | exact HB.out | apply pw_below_drewN )))⟩⟩
  case rest =>
   clear HC5
   try clear p2
   try clear c3
   try clear c3b0
   try clear c3b1
   try clear c5
   try clear c7
   try clear c7b0
   try clear c7b1
   try clear c8
   try clear c8b0
   try clear hcz6_0
   try clear hcz6_1
   try clear hfz6_0
   try clear hfz6_1
   obtain ⟨kq, qg, rfl, HA, HJ4, HI0, HK, HB⟩ := hcut
   cases kq with
   | zero => exact absurd HA.out (by simp [coppiceref02_Reader_Text.j0])
   | succ kj4 =>
    have H := HA.out
    clear HA
    simp only [coppiceref02_Reader_Text.j0] at H
    have HC9 := Aside0.mk H
    clear H
    go_upto_if 34 with (fail)
    go_cut [7] (fun v7 wc => ∃ (kq : Nat) (x7_8 : Int), v7 = .int .i64 x7_8 ∧ Aside0 (coppiceref02_Reader_Text.j1 kq qc qb x7_8 s0_0 s0_1 = some (r1, r2, r3)) ∧ Aside0 (kq ≤ kj4) ∧ Aside0 (IsS69 w0 wc g s0_0 s0_1) ∧ Aside0 (KeepBut w wc g none) ∧ Aside0 (Below w0.heap.size w0 wc))
    case first =>
     have H := HC9.out
     clear HC9
     by_cases c10 : qg = true
     ·subst c10
      have H1 : (coppiceref02_Reader_Text.j1 kj4 qc qb 22 s0_0 s0_1) = some (r1, r2, r3) := by rw [if_pos rfl] at H; exact H
      clear H
      have H := H1
      clear H1
      have H' := Aside0.mk H
      clear H
      go_wp2
      go_meet
      case rel => exact ⟨_, (22), (by (rfl)), H', ⟨by have := HJ4.out; (omega)⟩, ⟨by repeat (((with_reducible (exact HI0.out))))⟩, ⟨by repeat (((with_reducible (exact HK.out))))⟩, ⟨by repeat (((with_reducible (exact HB.out))))⟩⟩
     ·replace c10 := Bool.eq_false_iff.mpr c10
      subst c10
      have H1 : (coppiceref02_Reader_Text.j1 kj4 qc qb qe s0_0 s0_1) = some (r1, r2, r3) := by rw [if_neg (show ¬ (false = true) by decide)] at H; exact H
      clear H
      have H := H1
      clear H1
      have H' := Aside0.mk H
      clear H
      go_wp2
      go_meet
      case rel => exact ⟨_, (qe), (by (rfl)), H', ⟨by have := HJ4.out; (omega)⟩, ⟨by repeat (((with_reducible (exact HI0.out))))⟩, ⟨by repeat (((with_reducible (exact HK.out))))⟩, ⟨by repeat (((with_reducible (exact HB.out))))⟩⟩
    case rest =>
     clear HC9
     try clear c1
     try clear p2
     try clear c3
     try clear c3b0
     try clear c3b1
     try clear c5
     try clear c7
     try clear c7b0
     try clear c7b1
     try clear c8
     try clear c8b0
     try clear c10
     try clear hcz6_0
     try clear hcz6_1
     try clear hfz6_0
     try clear hfz6_1
     try clear p2
     obtain ⟨kq, x7_8, rfl, HA, HJ8, HI0, HK, HB⟩ := hcut
     cases kq with
     | zero => exact absurd HA.out (by simp [coppiceref02_Reader_Text.j1])
     | succ kj8 =>
      have H := HA.out
      clear HA
      simp only [coppiceref02_Reader_Text.j1] at H
      have qh := Aside0.mk H
      clear H
      go_upto_region 6 with (fail)
      go_cut [48] (fun qi wc => ∃ (kq : Nat) (qf : Bool), qi = .bool qf ∧ Aside0 (coppiceref02_Reader_Text.j2 kq qc qb x7_8 qf s0_0 s0_1 = some (r1, r2, r3)) ∧ Aside0 (kq ≤ kj8) ∧ Aside0 (IsS69 w0 wc g s0_0 s0_1) ∧ Aside0 (KeepBut w wc g none) ∧ Aside0 (Below w0.heap.size w0 wc))
      case first =>
       have H := qh.out
       clear qh
       by_cases c12 : x7_8 = 0
       ·rw [if_pos c12] at H
        have c12b0 : (x7_8 == 0) = true := beq_iff_eq.mpr c12
        have c12b1 : (x7_8 != 0) = false := bne_eq_false_iff_eq.mpr c12
        clear c12
        ((skip))
        have H' := Aside0.mk H
        clear H
        obtain ⟨HGz13, hgz13⟩ := HI0.out
        have hcz13_0 := cellS69_0 HGz13
        have hcz13_1 := cellS69_1 HGz13
        have hfz13_0 := blk_frozen HGz13 0
        have hfz13_1 := blk_frozen HGz13 1
        clear HGz13 hgz13
        go_wp2
        go_meet
        case rel => exact ⟨_, (decide (qc > (IntKind.u64.wrap (wrap64 ((s0_0.size : Int) - qb))))), (by (rfl)), H', ⟨by have := HJ4.out; have := HJ8.out; (omega)⟩, ⟨by repeat (((with_reducible (exact HI0.out))))⟩, ⟨by repeat (((with_reducible (exact HK.out))))⟩, ⟨by repeat (((with_reducible (exact HB.out))))⟩⟩
       ·rw [if_neg c12] at H
        have c12b0 : (x7_8 == 0) = false := beq_eq_false_iff_ne.mpr c12
        have c12b1 : (x7_8 != 0) = true := bne_iff_ne.mpr c12
        ((skip))
        have H' := Aside0.mk H
        clear H
        go_wp2
        go_meet
        case rel => exact ⟨_, (false), (by (rfl)), H', ⟨by have := HJ4.out; have := HJ8.out; (omega)⟩, ⟨by repeat (((with_reducible (exact HI0.out))))⟩, ⟨by repeat (((with_reducible (exact HK.out))))⟩, ⟨by repeat (((with_reducible (exact HB.out))))⟩⟩
      case rest =>
       clear qh
       try clear c1
       try clear p2
       try clear c3
       try clear c3b0
       try clear c3b1
       try clear c5
       try clear p6
       try clear c7
       try clear c7b0
       try clear c7b1
       try clear c8
       try clear c8b0
       try clear c10
       try clear c12
       try clear c12b0
       try clear c12b1
       try clear hcz13_0
       try clear hcz13_1
       try clear hcz6_0
       try clear hcz6_1
       try clear hfz13_0
       try clear hfz13_1
       try clear hfz6_0
       try clear hfz6_1
       try clear p2
       obtain ⟨kq, qf, rfl, HA, HJ10, HI0, HK, HB⟩ := hcut
       cases kq with
       | zero => exact absurd HA.out (by simp [coppiceref02_Reader_Text.j2])
       | succ kj10 =>
        have H := HA.out
        clear HA
        simp only [coppiceref02_Reader_Text.j2] at H
        by_cases c14 : qf = true
        ·subst c14
         have H1 : (some ((⟨#[]⟩ : ByteArray), s0_0, 20)) = some (r1, r2, r3) := by rw [if_pos rfl] at H; exact H
         clear H
         have H := H1
         clear H1
         simp only [Option.some.injEq, Prod.mk.injEq] at H
         obtain ⟨rfl, rfl, rfl⟩ := H
         obtain ⟨HGz15, hgz15⟩ := HI0.out
         have hcz15_0 := cellS69_0 HGz15
         have hcz15_1 := cellS69_1 HGz15
         have hfz15_0 := blk_frozen HGz15 0
         have hfz15_1 := blk_frozen HGz15 1
         clear HGz15 hgz15
         go_wp2
         go_ret
         exact ⟨by (rfl), by repeat (((with_reducible first | exact HI0.out | apply IsS69.set_1))), by repeat (((with_reducible first | exact HB.out | refine below_set ?_ (IsS69.ge HI0.out)))), by repeat (((with_reducible first | exact HK.out | apply KeepBut.set_ )))⟩
        ·replace c14 := Bool.eq_false_iff.mpr c14
         subst c14
         have H1 : (if x7_8 = 0 then (if 0 ≤ qb then (if qb ≤ (wrap64 (qb + (wrap64 (qc)))) then (if (wrap64 (qb + (wrap64 (qc)))) ≤ (s0_0.size : Int) then (if 0 ≤ (wrap64 (qb + (wrap64 (qc)))) then (some (s0_0.extract (qb : Int).toNat ((wrap64 (qb + (wrap64 (qc)))) : Int).toNat, s0_0.extract ((wrap64 (qb + (wrap64 (qc)))) : Int).toNat s0_0.size, s0_1)) else (none)) else (none)) else (none)) else (none)) else (some ((⟨#[]⟩ : ByteArray), s0_0, x7_8))) = some (r1, r2, r3) := by rw [if_neg (show ¬ (false = true) by decide)] at H; exact H
         clear H
         have H := H1
         clear H1
         by_cases c16 : x7_8 = 0
         ·rw [if_pos c16] at H
          have c16b0 : (x7_8 == 0) = true := beq_iff_eq.mpr c16
          have c16b1 : (x7_8 != 0) = false := bne_eq_false_iff_eq.mpr c16
          clear c16
          by_cases c17 : 0 ≤ qb
          ·rw [if_pos c17] at H
           have c17b0 := eq_true c17
           have c17b1 : decide (0 ≤ qb) = true := decide_eq_true c17
           clear c17
           by_cases c18 : qb ≤ (wrap64 (qb + (wrap64 (qc))))
           ·rw [if_pos c18] at H
            have c18b0 := eq_true c18
            have c18b1 : decide (qb ≤ (wrap64 (qb + (wrap64 (qc))))) = true := decide_eq_true c18
            by_cases c19 : (wrap64 (qb + (wrap64 (qc)))) ≤ (s0_0.size : Int)
            ·rw [if_pos c19] at H
             have c19b0 := eq_true c19
             have c19b1 : decide ((wrap64 (qb + (wrap64 (qc)))) ≤ (s0_0.size : Int)) = true := decide_eq_true c19
             obtain ⟨ji20, hji20⟩ : ∃ j_ : Int, (wrap64 (qb + (wrap64 (qc)))) = j_ := ⟨_, rfl⟩
             replace H : (if 0 ≤ (ji20) then (some (s0_0.extract (qb : Int).toNat ((ji20) : Int).toNat, s0_0.extract ((ji20) : Int).toNat s0_0.size, s0_1)) else (none)) = some (r1, r2, r3) := by ((rw [hji20] at H; exact H))
             (try rw [hji20] at c18b0)
             (try rw [hji20] at c18b1)
             (try rw [hji20] at c18)
             (try rw [hji20] at c19b0)
             (try rw [hji20] at c19b1)
             (try rw [hji20] at c19)
             have hji20w : (IntKind.i64.wrap (qb + (wrap64 (qc)))) = ji20 := (i64_w _).trans hji20
             by_cases c21 : 0 ≤ (ji20)
             ·rw [if_pos c21] at H
              have c21b0 := eq_true c21
              have c21b1 : decide (0 ≤ (ji20)) = true := decide_eq_true c21
              clear c21
              have c22b0 := eq_true (of_decide_eq_true (by ((with_reducible assumption))) : (ji20) ≤ (s0_0.size : Int))
              simp only [Option.some.injEq, Prod.mk.injEq] at H
              obtain ⟨rfl, rfl, rfl⟩ := H
              obtain ⟨HGz23, hgz23⟩ := HI0.out
              have hcz23_0 := cellS69_0 HGz23
              have hcz23_1 := cellS69_1 HGz23
              have hfz23_0 := blk_frozen HGz23 0
              have hfz23_1 := blk_frozen HGz23 1
              clear HGz23 hgz23
              go_wp2
              go_ret
              exact ⟨by (rfl), by repeat (((with_reducible first | exact HI0.out | apply IsS69.set_0 ))), by repeat (((with_reducible first | exact HB.out | refine below_set ?_ (IsS69.ge HI0.out)))), by repeat (((with_reducible first | exact HK.out | apply KeepBut.set_ )))⟩
             ·rw [if_neg c21] at H
              exact absurd H (by simp)
            ·rw [if_neg c19] at H
             exact absurd H (by simp)
           ·rw [if_neg c18] at H
            exact absurd H (by simp)
          ·rw [if_neg c17] at H
           exact absurd H (by simp)
         ·rw [if_neg c16] at H
          have c16b0 : (x7_8 == 0) = false := beq_eq_false_iff_ne.mpr c16
          have c16b1 : (x7_8 != 0) = true := bne_iff_ne.mpr c16
          simp only [Option.some.injEq, Prod.mk.injEq] at H
          obtain ⟨rfl, rfl, rfl⟩ := H
          obtain ⟨HGz24, hgz24⟩ := HI0.out
          have hcz24_0 := cellS69_0 HGz24
          have hcz24_1 := cellS69_1 HGz24
          have hfz24_0 := blk_frozen HGz24 0
          have hfz24_1 := blk_frozen HGz24 1
          clear HGz24 hgz24
          go_wp2
          go_ret
          exact ⟨by (rfl), by repeat (((with_reducible first | exact HI0.out | apply IsS69.set_1))), by repeat (((with_reducible first | exact HB.out | refine below_set ?_ (IsS69.ge HI0.out)))), by repeat (((with_reducible first | exact HK.out | apply KeepBut.set_ )))⟩
 ·rw [if_neg c3] at H
  have c3b0 : (s0_1 == 0) = false := beq_eq_false_iff_ne.mpr c3
  have c3b1 : (s0_1 != 0) = true := bne_iff_ne.mpr c3
  simp only [Option.some.injEq, Prod.mk.injEq] at H
  obtain ⟨rfl, rfl, rfl⟩ := H
  obtain ⟨HGz25, hgz25⟩ := HI0.out
  have hcz25_0 := cellS69_0 HGz25
  have hcz25_1 := cellS69_1 HGz25
  have hfz25_0 := blk_frozen HGz25 0
  have hfz25_1 := blk_frozen HGz25 1
  clear HGz25 hgz25
  go_enter Tryz.func59, Tryz.ntmps59
  go_wp2
  go_ret
  exact ⟨by (rfl), by repeat (((with_reducible (exact HI0.out)))), by repeat (((with_reducible (exact HB.out)))), by repeat (((with_reducible (exact HK.out))))⟩

end Go.Proofs.YtofdpgcnconibaaGreatDoor.PA
-- WRITTEN BY a program of this session (pp.sh)
namespace Go.Proofs.YtofdpgcnconibaaGreatDoor.PA
open Go.RowKit Go.Proofs.YtofdpgcnconibaaGreatDoorW.PrintWords Go.Proofs.YtofdpgcnconibaaGreatDoorW.PrintLast Go.Proofs.YtofdpgcnconibaaGreatDoorW.PrintMore Go.Proofs.YtofdpgcnconibaaGreatDoor.Plain
attribute [local go_sem] max2_int min2_int max_two min_two max_three min_three max_four min_four binOp_leq_s binOp_gtr_s binOp_geq_s lit_byte   -- for this text's walks alone
set_option linter.unusedVariables false
set_option linter.unusedSimpArgs false

/-! ### coppiceref02_Reader_Fixed: function 60 -/
def coppiceref02_Reader_Fixed.l0 : Nat → Int → Int → ByteArray → Int → Option (Int × ByteArray × Int)
 | 0, _, _, _, _ => none
 | k + 1, x3, x4, x1000, x1001 => if x4 < 8 then (if 0 ≤ x4 then (if x4 < (x1000.size : Int) then (coppiceref02_Reader_Fixed.l0 k (Go.bits .or .u64 (IntKind.u64.wrap (x3 * 256)) (IntKind.u64.wrap (bt x1000 x4))) (wrap64 (x4 + 1)) x1000 x1001) else (none)) else (none)) else (if 8 ≤ (x1000.size : Int) then (some (x3, x1000.extract 8 x1000.size, x1001)) else (none))
def coppiceref02_Reader_Fixed.f (k : Nat) (s0_0 : ByteArray) (s0_1 : Int) : Option (Int × ByteArray × Int) := if s0_1 = 0 then (if (s0_0.size : Int) < 8 then (some (0, s0_0, 20)) else (coppiceref02_Reader_Fixed.l0 k 0 0 s0_0 s0_1)) else (some (0, s0_0, s0_1))
set_option maxHeartbeats 8000000 in
set_option maxRecDepth 100000 in
theorem coppiceref02_Reader_Fixed.calls (k : Nat) (g : Nat) (s0_0 : ByteArray) (s0_1 : Int) (r1 : Int) (r2 : ByteArray) (r3 : Int) (w0 w : World) (hI : IsS69 w0 w g s0_0 s0_1) (hB : Below w0.heap.size w0 w) (h : coppiceref02_Reader_Fixed.f k s0_0 s0_1 = some (r1, r2, r3)) :
  Calls Tryz.prog 60 #[.pointer (some ⟨g, 0, none⟩)] w fun e w' => e = .returned (.int .u64 r1) ∧ IsS69 w0 w' g r2 r3 ∧ Below w0.heap.size w0 w' ∧ KeepBut w w' g none := by
 have HI0 := Aside0.mk hI
 have HK := Aside0.mk (KeepBut.refl w g none)
 have HL := Aside0.mk hB.size
 clear hI
 have HW0 := Aside0.mk hB.size
 have HB := Aside0.mk hB
 clear hB
 have H : (if s0_1 = 0 then (if (s0_0.size : Int) < 8 then (some (0, s0_0, 20)) else (coppiceref02_Reader_Fixed.l0 k 0 0 s0_0 s0_1)) else (some (0, s0_0, s0_1))) = some (r1, r2, r3) := h
 clear h
 by_cases c2 : s0_1 = 0
 ·rw [if_pos c2] at H
  have c2b0 : (s0_1 == 0) = true := beq_iff_eq.mpr c2
  have c2b1 : (s0_1 != 0) = false := bne_eq_false_iff_eq.mpr c2
  clear c2
  by_cases c3 : (s0_0.size : Int) < 8
  ·rw [if_pos c3] at H
   have c3b0 : decide ((s0_0.size : Int) < 8) = true := decide_eq_true c3
   have c3b1 : decide (s0_0.size < 8) = true := decide_eq_true (by omega)
   clear c3
   simp only [Option.some.injEq, Prod.mk.injEq] at H
   obtain ⟨rfl, rfl, rfl⟩ := H
   obtain ⟨HGz4, hgz4⟩ := HI0.out
   have hcz4_0 := cellS69_0 HGz4
   have hcz4_1 := cellS69_1 HGz4
   have hfz4_0 := blk_frozen HGz4 0
   have hfz4_1 := blk_frozen HGz4 1
   clear HGz4 hgz4
   go_enter Tryz.func60, Tryz.ntmps60
   go_wp2
   go_ret
   exact ⟨by (rfl), by repeat (((with_reducible first | exact HI0.out | apply IsS69.set_1))), by repeat (((with_reducible first | exact HB.out | refine below_set ?_ (IsS69.ge HI0.out)))), by repeat (((with_reducible first | exact HK.out | apply KeepBut.set_ )))⟩
  ·rw [if_neg c3] at H
   have c3b0 : decide ((s0_0.size : Int) < 8) = false := decide_eq_false c3
   have c3b1 : decide (s0_0.size < 8) = false := decide_eq_false (by omega)
   clear c3
   have H' := Aside0.mk H
   clear H
   obtain ⟨HGz5, hgz5⟩ := HI0.out
   have hcz5_0 := cellS69_0 HGz5
   have hcz5_1 := cellS69_1 HGz5
   have hfz5_0 := blk_frozen HGz5 0
   have hfz5_1 := blk_frozen HGz5 1
   clear HGz5 hgz5
   go_enter Tryz.func60, Tryz.ntmps60
   go_wp2
   go_loopg [3, 4] k (fun kq v3 v4 w' => ∃ (x3_1 : Int) (x4_1 : Int), v3 = .int .u64 x3_1 ∧ v4 = .int .i64 x4_1 ∧ Aside0 (coppiceref02_Reader_Fixed.l0 kq x3_1 x4_1 s0_0 s0_1 = some (r1, r2, r3)) ∧ Aside0 (kq ≤ k) ∧ Aside0 (IsS69 w0 w' g s0_0 s0_1) ∧ Aside0 (KeepBut w w' g none) ∧ Aside0 (Below w0.heap.size w0 w'))
   case atStart => exact ⟨(0), (0), (by (rfl)), (by (rfl)), H', ⟨Nat.le_refl _⟩, ⟨by repeat (((with_reducible (exact HI0.out))))⟩, ⟨by repeat (((with_reducible (exact HK.out))))⟩, ⟨by repeat (((with_reducible (exact HB.out))))⟩⟩
   case round =>
    clear H'
    try clear c2
    try clear c2b0
    try clear c2b1
    try clear p2
    try clear c3
    try clear c3b0
    try clear c3b1
    try clear hcz4_0
    try clear hcz4_1
    try clear hcz5_0
    try clear hcz5_1
    try clear hfz4_0
    try clear hfz4_1
    try clear hfz5_0
    try clear hfz5_1
    obtain ⟨x3_1, x4_1, rfl, rfl, HA, HK1, HI0, HK, HB⟩ := hrel
    cases gk with
    | zero => exact absurd HA.out (by simp [coppiceref02_Reader_Fixed.l0])
    | succ k1 =>
     have H := HA.out
     clear HA
     simp only [coppiceref02_Reader_Fixed.l0] at H
     by_cases c6 : x4_1 < 8
     ·rw [if_pos c6] at H
      have c6b0 : decide (x4_1 < 8) = true := decide_eq_true c6
      clear c6
      by_cases c7 : 0 ≤ x4_1
      ·rw [if_pos c7] at H
       have c7b0 : decide (0 ≤ x4_1) = true := decide_eq_true c7
       clear c7
       by_cases c8 : x4_1 < (s0_0.size : Int)
       ·rw [if_pos c8] at H
        have c8b0 : decide (x4_1 < (s0_0.size : Int)) = true := decide_eq_true c8
        clear c8
        have H' := Aside0.mk H
        clear H
        obtain ⟨HGz10, hgz10⟩ := HI0.out
        have hcz10_0 := cellS69_0 HGz10
        have hcz10_1 := cellS69_1 HGz10
        have hfz10_0 := blk_frozen HGz10 0
        have hfz10_1 := blk_frozen HGz10 1
        clear HGz10 hgz10
        have p9 : 0 ≤ (x4_1 : Int) := of_decide_eq_true (by ((with_reducible assumption)))
        have q9 : x4_1 < (s0_0.size : Int) := of_decide_eq_true (by ((with_reducible assumption)))
        have hx9 := bt_at s0_0 x4_1
        replace p9 := eq_true p9
        replace q9 := eq_true q9
        go_wp2
        go_roundg k1
        case measure => have := HK1.out; omega
        case rel => exact ⟨(Go.bits .or .u64 (IntKind.u64.wrap (x3_1 * 256)) (IntKind.u64.wrap (bt s0_0 x4_1))), (wrap64 (x4_1 + 1)), (by (rfl)), (by (rfl)), H', ⟨by have := HK1.out; omega⟩, ⟨by repeat (((with_reducible (exact HI0.out))))⟩, ⟨by repeat (((with_reducible (exact HK.out))))⟩, ⟨by repeat (((with_reducible (exact HB.out))))⟩⟩
       ·rw [if_neg c8] at H
        exact absurd H (by simp)
      ·rw [if_neg c7] at H
       exact absurd H (by simp)
     ·rw [if_neg c6] at H
      have c6b0 : decide (x4_1 < 8) = false := decide_eq_false c6
      clear c6
      by_cases c11 : 8 ≤ (s0_0.size : Int)
      ·rw [if_pos c11] at H
       have c11b0 := eq_true c11
       have c11b1 : decide (8 ≤ (s0_0.size : Int)) = true := decide_eq_true c11
       clear c11
       simp only [Option.some.injEq, Prod.mk.injEq] at H
       obtain ⟨rfl, rfl, rfl⟩ := H
       obtain ⟨HGz12, hgz12⟩ := HI0.out
       have hcz12_0 := cellS69_0 HGz12
       have hcz12_1 := cellS69_1 HGz12
       have hfz12_0 := blk_frozen HGz12 0
       have hfz12_1 := blk_frozen HGz12 1
       clear HGz12 hgz12
       go_wp2
       go_ret
       exact ⟨by (rfl), by repeat (((with_reducible first | exact HI0.out | apply IsS69.set_0 ))), by repeat (((with_reducible first | exact HB.out | refine below_set ?_ (IsS69.ge HI0.out)))), by repeat (((with_reducible first | exact HK.out | apply KeepBut.set_ )))⟩
      ·rw [if_neg c11] at H
       exact absurd H (by simp)
 ·rw [if_neg c2] at H
  have c2b0 : (s0_1 == 0) = false := beq_eq_false_iff_ne.mpr c2
  have c2b1 : (s0_1 != 0) = true := bne_iff_ne.mpr c2
  simp only [Option.some.injEq, Prod.mk.injEq] at H
  obtain ⟨rfl, rfl, rfl⟩ := H
  obtain ⟨HGz13, hgz13⟩ := HI0.out
  have hcz13_0 := cellS69_0 HGz13
  have hcz13_1 := cellS69_1 HGz13
  have hfz13_0 := blk_frozen HGz13 0
  have hfz13_1 := blk_frozen HGz13 1
  clear HGz13 hgz13
  go_enter Tryz.func60, Tryz.ntmps60
  go_wp2
  go_ret
  exact ⟨by (rfl), by repeat (((with_reducible (exact HI0.out)))), by repeat (((with_reducible (exact HB.out)))), by repeat (((with_reducible (exact HK.out))))⟩

/-! ### coppiceref02_Reader_End: function 61 -/
def coppiceref02_Reader_End.f (s0_0 : ByteArray) (s0_1 : Int) : Option (Int × ByteArray × Int) := if s0_1 = 0 then (if s0_0.toList = ([] : List UInt8) then (some (s0_1, s0_0, s0_1)) else (some (22, s0_0, s0_1))) else (some (s0_1, s0_0, s0_1))
set_option maxHeartbeats 8000000 in
set_option maxRecDepth 100000 in
theorem coppiceref02_Reader_End.calls (g : Nat) (s0_0 : ByteArray) (s0_1 : Int) (r1 : Int) (r2 : ByteArray) (r3 : Int) (w0 w : World) (hI : IsS69 w0 w g s0_0 s0_1) (hB : Below w0.heap.size w0 w) (h : coppiceref02_Reader_End.f s0_0 s0_1 = some (r1, r2, r3)) :
  Calls Tryz.prog 61 #[.pointer (some ⟨g, 0, none⟩)] w fun e w' => e = .returned (.int .i64 r1) ∧ IsS69 w0 w' g r2 r3 ∧ Below w0.heap.size w0 w' ∧ KeepBut w w' g none := by
 have HI0 := Aside0.mk hI
 have HK := Aside0.mk (KeepBut.refl w g none)
 have HL := Aside0.mk hB.size
 clear hI
 have HW0 := Aside0.mk hB.size
 have HB := Aside0.mk hB
 clear hB
 have H : (if s0_1 = 0 then (if s0_0.toList = ([] : List UInt8) then (some (s0_1, s0_0, s0_1)) else (some (22, s0_0, s0_1))) else (some (s0_1, s0_0, s0_1))) = some (r1, r2, r3) := h
 clear h
 by_cases c2 : s0_1 = 0
 ·rw [if_pos c2] at H
  have c2b0 : (s0_1 == 0) = true := beq_iff_eq.mpr c2
  have c2b1 : (s0_1 != 0) = false := bne_eq_false_iff_eq.mpr c2
  clear c2
  by_cases c3 : s0_0.toList = ([] : List UInt8)
  ·rw [if_pos c3] at H
   have c3b0 : (s0_0.toList == ([] : List UInt8)) = true := beq_iff_eq.mpr c3
   have c3b1 : (s0_0.toList != ([] : List UInt8)) = false := bne_eq_false_iff_eq.mpr c3
   clear c3
   simp only [Option.some.injEq, Prod.mk.injEq] at H
   obtain ⟨rfl, rfl, rfl⟩ := H
   obtain ⟨HGz4, hgz4⟩ := HI0.out
   have hcz4_0 := cellS69_0 HGz4
   have hcz4_1 := cellS69_1 HGz4
   have hfz4_0 := blk_frozen HGz4 0
   have hfz4_1 := blk_frozen HGz4 1
   clear HGz4 hgz4
   go_enter Tryz.func61, Tryz.ntmps61
   go_wp2
   go_ret
   exact ⟨by (rfl), by repeat (((with_reducible (exact HI0.out)))), by repeat (((with_reducible (exact HB.out)))), by repeat (((with_reducible (exact HK.out))))⟩
  ·rw [if_neg c3] at H
   have c3b0 : (s0_0.toList == ([] : List UInt8)) = false := beq_eq_false_iff_ne.mpr c3
   have c3b1 : (s0_0.toList != ([] : List UInt8)) = true := bne_iff_ne.mpr c3
   simp only [Option.some.injEq, Prod.mk.injEq] at H
   obtain ⟨rfl, rfl, rfl⟩ := H
   obtain ⟨HGz5, hgz5⟩ := HI0.out
   have hcz5_0 := cellS69_0 HGz5
   have hcz5_1 := cellS69_1 HGz5
   have hfz5_0 := blk_frozen HGz5 0
   have hfz5_1 := blk_frozen HGz5 1
   clear HGz5 hgz5
   go_enter Tryz.func61, Tryz.ntmps61
   go_wp2
   go_ret
   exact ⟨by (rfl), by repeat (((with_reducible (exact HI0.out)))), by repeat (((with_reducible (exact HB.out)))), by repeat (((with_reducible (exact HK.out))))⟩
 ·rw [if_neg c2] at H
  have c2b0 : (s0_1 == 0) = false := beq_eq_false_iff_ne.mpr c2
  have c2b1 : (s0_1 != 0) = true := bne_iff_ne.mpr c2
  simp only [Option.some.injEq, Prod.mk.injEq] at H
  obtain ⟨rfl, rfl, rfl⟩ := H
  obtain ⟨HGz6, hgz6⟩ := HI0.out
  have hcz6_0 := cellS69_0 HGz6
  have hcz6_1 := cellS69_1 HGz6
  have hfz6_0 := blk_frozen HGz6 0
  have hfz6_1 := blk_frozen HGz6 1
  clear HGz6 hgz6
  go_enter Tryz.func61, Tryz.ntmps61
  go_wp2
  go_ret
  exact ⟨by (rfl), by repeat (((with_reducible (exact HI0.out)))), by repeat (((with_reducible (exact HB.out)))), by repeat (((with_reducible (exact HK.out))))⟩

end Go.Proofs.YtofdpgcnconibaaGreatDoor.PA
