-- WRITTEN BY a program of this session (pp.sh)
import Derived.Test.YtofdpgcnconibaaGreatDoorPAx0
namespace Go.Proofs.YtofdpgcnconibaaGreatDoor.PA
open Go.RowKit Go.Proofs.YtofdpgcnconibaaGreatDoorW.PrintWords Go.Proofs.YtofdpgcnconibaaGreatDoorW.PrintLast Go.Proofs.YtofdpgcnconibaaGreatDoorW.PrintMore Go.Proofs.YtofdpgcnconibaaGreatDoor.Plain
attribute [local go_sem] max2_int min2_int max_two min_two max_three min_three max_four min_four binOp_leq_s binOp_gtr_s binOp_geq_s lit_byte   -- for this text's walks alone
set_option linter.unusedVariables false
set_option linter.unusedSimpArgs false

/-! ### coppiceref19_Great: function 9 -/
def coppiceref19_Great.l0 : Nat → List (S23) → Int → Option (Bool)
 | 0, _, _ => none
 | k + 1, x0, x3 => if x3 < (x0.length : Int) then (if 0 ≤ x3 then (if (((rd_T23 x0 x3).f1).size : Int) > 1500 then (some true) else (if (((rd_T23 x0 x3).f2).size : Int) > 1500 then (some true) else (if (((rd_T23 x0 x3).f3).size : Int) > 400 then (some true) else (if (((rd_T23 x0 x3).f5).size : Int) > 400 then (some true) else (coppiceref19_Great.l0 k x0 (wrap64 (x3 + 1))))))) else (none)) else (some false)
def coppiceref19_Great.f (k : Nat) (l0 : List (S23)) : Option (Bool) := if (l0.length : Int) > 300 then (some true) else (coppiceref19_Great.l0 k l0 0)
theorem coppiceref19_Great.mono_l : ∀ k, (∀ y0 y1, LeO (coppiceref19_Great.l0 k y0 y1) (coppiceref19_Great.l0 (k + 1) y0 y1))
 | 0 => fun _ _ r h => by simp [coppiceref19_Great.l0] at h
 | k + 1 => by
  have ih0 := coppiceref19_Great.mono_l k
  ·intro y0 y1
   unfold coppiceref19_Great.l0
   repeat' first
   | (with_reducible exact ih0 _ _)
   | (with_reducible exact LeO.refl _)
   | (with_reducible exact LeO.none _)
   | (with_reducible refine LeO.ite ?_ ?_)
   | (with_reducible refine LeO.bind ?_ (fun _ => ?_))
   | exact ih0 _ _
   | exact LeO.none _
   | refine LeO.ite ?_ ?_
   | refine LeO.bind ?_ (fun _ => ?_)
theorem coppiceref19_Great.mono : ∀ a0 k, LeO (coppiceref19_Great.f k a0) (coppiceref19_Great.f (k + 1) a0) := by
 intro a0 k
 have ih0 := coppiceref19_Great.mono_l k
 unfold coppiceref19_Great.f
 repeat' first
   | (with_reducible exact ih0 _ _)
   | (with_reducible exact LeO.refl _)
   | (with_reducible exact LeO.none _)
   | (with_reducible refine LeO.ite ?_ ?_)
   | (with_reducible refine LeO.bind ?_ (fun _ => ?_))
   | exact ih0 _ _
   | exact LeO.none _
   | refine LeO.ite ?_ ?_
   | refine LeO.bind ?_ (fun _ => ?_)
set_option maxHeartbeats 8000000 in
set_option maxRecDepth 100000 in
theorem coppiceref19_Great.calls (k : Nat) (A0 : Option Addr) (c0 : Nat) (l0 : List (S23)) (r : Bool) (w : World) (hr0 : Kd.C k23 w A0 l0.length l0) (hc0 : l0.length ≤ c0) (h : coppiceref19_Great.f k l0 = some r) :
  Calls Tryz.prog 9 #[.slice A0 l0.length c0] w fun e w' => e = .returned (.bool r) ∧ Drawn0 w w' := by
 have HR0 := Aside0.mk hr0
 have HC0 := Aside0.mk hc0
 clear hr0 hc0
 have H : (if (l0.length : Int) > 300 then (some true) else (coppiceref19_Great.l0 k l0 0)) = some r := h
 clear h
 by_cases c2 : (l0.length : Int) > 300
 ·rw [if_pos c2] at H
  have c2b0 : decide (300 < (l0.length : Int)) = true := decide_eq_true c2
  have c2b1 : decide (300 < l0.length) = true := decide_eq_true (by omega)
  clear c2
  obtain rfl := Option.some.inj H
  go_enter Tryz.func9, Tryz.ntmps9
  go_wp2
  go_ret
  exact ⟨by first | rfl | (simp; done) | (simp [*]; done), by repeat (first | exact Drawn0.refl _ | apply Drawn0.step)⟩
 ·rw [if_neg c2] at H
  have c2b0 : decide (300 < (l0.length : Int)) = false := decide_eq_false c2
  have c2b1 : decide (300 < l0.length) = false := decide_eq_false (by omega)
  clear c2
  have H' := Aside0.mk H
  clear H
  go_enter Tryz.func9, Tryz.ntmps9
  go_wp2
  go_loopg [3] k (fun kq v3 w' => ∃ (x3_1 : Int), v3 = .int .i64 x3_1 ∧ Aside0 (coppiceref19_Great.l0 kq l0 x3_1 = some r) ∧ Aside0 (kq ≤ k) ∧ Drawn0 w w')
  case atStart => exact ⟨(0), (by first | rfl | (simp; done) | (simp [*]; done)), H', ⟨Nat.le_refl _⟩, by repeat (first | exact Drawn0.refl _ | apply Drawn0.step)⟩
  case round =>
   clear H'
   try clear c2
   try clear c2b0
   try clear c2b1
   try clear p2
   obtain ⟨x3_1, rfl, HA, HK1, ⟨m1, rfl⟩⟩ := hrel
   cases gk with
   | zero => exact absurd HA.out (by simp [coppiceref19_Great.l0])
   | succ k1 =>
    have H := HA.out
    clear HA
    simp only [coppiceref19_Great.l0] at H
    by_cases c3 : x3_1 < (l0.length : Int)
    ·rw [if_pos c3] at H
     have c3b0 : decide (x3_1 < (l0.length : Int)) = true := decide_eq_true c3
     clear c3
     by_cases c4 : 0 ≤ x3_1
     ·rw [if_pos c4] at H
      have c4b0 : decide (0 ≤ x3_1) = true := decide_eq_true c4
      clear c4
      by_cases c5 : (((rd_T23 l0 x3_1).f1).size : Int) > 1500
      ·rw [if_pos c5] at H
       have c5b0 : decide (1500 < (((rd_T23 l0 x3_1).f1).size : Int)) = true := decide_eq_true c5
       have c5b1 : decide (1500 < ((rd_T23 l0 x3_1).f1).size) = true := decide_eq_true (by omega)
       clear c5
       obtain rfl := Option.some.inj H
       have p186 : 0 ≤ (x3_1 : Int) := of_decide_eq_true (by first | (with_reducible assumption) | assumption)
       have q186 : x3_1 < (l0.length : Int) := of_decide_eq_true (by first | (with_reducible assumption) | assumption)
       obtain ⟨ad186, e186, hx186_0, hx186_1, hx186_2, hx186_3, hx186_4, hx186_5⟩ := at_T23 HR0.out x3_1 p186 q186
       cases e186
       replace p186 := eq_true p186
       replace q186 := eq_true q186
       go_wp2
       go_ret
       exact ⟨by first | rfl | (simp; done) | (simp [*]; done), by repeat (first | exact Drawn0.refl _ | apply Drawn0.step)⟩
      ·rw [if_neg c5] at H
       have c5b0 : decide (1500 < (((rd_T23 l0 x3_1).f1).size : Int)) = false := decide_eq_false c5
       have c5b1 : decide (1500 < ((rd_T23 l0 x3_1).f1).size) = false := decide_eq_false (by omega)
       clear c5
       by_cases c6 : (((rd_T23 l0 x3_1).f2).size : Int) > 1500
       ·rw [if_pos c6] at H
        have c6b0 : decide (1500 < (((rd_T23 l0 x3_1).f2).size : Int)) = true := decide_eq_true c6
        have c6b1 : decide (1500 < ((rd_T23 l0 x3_1).f2).size) = true := decide_eq_true (by omega)
        clear c6
        obtain rfl := Option.some.inj H
        have p186 : 0 ≤ (x3_1 : Int) := of_decide_eq_true (by first | (with_reducible assumption) | assumption)
        have q186 : x3_1 < (l0.length : Int) := of_decide_eq_true (by first | (with_reducible assumption) | assumption)
        obtain ⟨ad186, e186, hx186_0, hx186_1, hx186_2, hx186_3, hx186_4, hx186_5⟩ := at_T23 HR0.out x3_1 p186 q186
        cases e186
        replace p186 := eq_true p186
        replace q186 := eq_true q186
        have p187 : 0 ≤ (x3_1 : Int) := of_decide_eq_true (by first | (with_reducible assumption) | assumption)
        have q187 : x3_1 < (l0.length : Int) := of_decide_eq_true (by first | (with_reducible assumption) | assumption)
        obtain ⟨ad187, e187, hx187_0, hx187_1, hx187_2, hx187_3, hx187_4, hx187_5⟩ := at_T23 HR0.out x3_1 p187 q187
        obtain rfl : ad186 = ad187 := (by injection e187)
        replace p187 := eq_true p187
        replace q187 := eq_true q187
        go_wp2
        go_ret
        exact ⟨by first | rfl | (simp; done) | (simp [*]; done), by repeat (first | exact Drawn0.refl _ | apply Drawn0.step)⟩
       ·rw [if_neg c6] at H
        have c6b0 : decide (1500 < (((rd_T23 l0 x3_1).f2).size : Int)) = false := decide_eq_false c6
        have c6b1 : decide (1500 < ((rd_T23 l0 x3_1).f2).size) = false := decide_eq_false (by omega)
        clear c6
        by_cases c7 : (((rd_T23 l0 x3_1).f3).size : Int) > 400
        ·rw [if_pos c7] at H
         have c7b0 : decide (400 < (((rd_T23 l0 x3_1).f3).size : Int)) = true := decide_eq_true c7
         have c7b1 : decide (400 < ((rd_T23 l0 x3_1).f3).size) = true := decide_eq_true (by omega)
         clear c7
         obtain rfl := Option.some.inj H
         have p186 : 0 ≤ (x3_1 : Int) := of_decide_eq_true (by first | (with_reducible assumption) | assumption)
         have q186 : x3_1 < (l0.length : Int) := of_decide_eq_true (by first | (with_reducible assumption) | assumption)
         obtain ⟨ad186, e186, hx186_0, hx186_1, hx186_2, hx186_3, hx186_4, hx186_5⟩ := at_T23 HR0.out x3_1 p186 q186
         cases e186
         replace p186 := eq_true p186
         replace q186 := eq_true q186
         have p187 : 0 ≤ (x3_1 : Int) := of_decide_eq_true (by first | (with_reducible assumption) | assumption)
         have q187 : x3_1 < (l0.length : Int) := of_decide_eq_true (by first | (with_reducible assumption) | assumption)
         obtain ⟨ad187, e187, hx187_0, hx187_1, hx187_2, hx187_3, hx187_4, hx187_5⟩ := at_T23 HR0.out x3_1 p187 q187
         obtain rfl : ad186 = ad187 := (by injection e187)
         replace p187 := eq_true p187
         replace q187 := eq_true q187
         have p188 : 0 ≤ (x3_1 : Int) := of_decide_eq_true (by first | (with_reducible assumption) | assumption)
         have q188 : x3_1 < (l0.length : Int) := of_decide_eq_true (by first | (with_reducible assumption) | assumption)
         obtain ⟨ad188, e188, hx188_0, hx188_1, hx188_2, hx188_3, hx188_4, hx188_5⟩ := at_T23 HR0.out x3_1 p188 q188
         obtain rfl : ad186 = ad188 := (by injection e188)
         replace p188 := eq_true p188
         replace q188 := eq_true q188
         go_wp2
         go_ret
         exact ⟨by first | rfl | (simp; done) | (simp [*]; done), by repeat (first | exact Drawn0.refl _ | apply Drawn0.step)⟩
        ·rw [if_neg c7] at H
         have c7b0 : decide (400 < (((rd_T23 l0 x3_1).f3).size : Int)) = false := decide_eq_false c7
         have c7b1 : decide (400 < ((rd_T23 l0 x3_1).f3).size) = false := decide_eq_false (by omega)
         clear c7
         by_cases c8 : (((rd_T23 l0 x3_1).f5).size : Int) > 400
         ·rw [if_pos c8] at H
          have c8b0 : decide (400 < (((rd_T23 l0 x3_1).f5).size : Int)) = true := decide_eq_true c8
          have c8b1 : decide (400 < ((rd_T23 l0 x3_1).f5).size) = true := decide_eq_true (by omega)
          clear c8
          obtain rfl := Option.some.inj H
          have p186 : 0 ≤ (x3_1 : Int) := of_decide_eq_true (by first | (with_reducible assumption) | assumption)
          have q186 : x3_1 < (l0.length : Int) := of_decide_eq_true (by first | (with_reducible assumption) | assumption)
          obtain ⟨ad186, e186, hx186_0, hx186_1, hx186_2, hx186_3, hx186_4, hx186_5⟩ := at_T23 HR0.out x3_1 p186 q186
          cases e186
          replace p186 := eq_true p186
          replace q186 := eq_true q186
          have p187 : 0 ≤ (x3_1 : Int) := of_decide_eq_true (by first | (with_reducible assumption) | assumption)
          have q187 : x3_1 < (l0.length : Int) := of_decide_eq_true (by first | (with_reducible assumption) | assumption)
          obtain ⟨ad187, e187, hx187_0, hx187_1, hx187_2, hx187_3, hx187_4, hx187_5⟩ := at_T23 HR0.out x3_1 p187 q187
          obtain rfl : ad186 = ad187 := (by injection e187)
          replace p187 := eq_true p187
          replace q187 := eq_true q187
          have p188 : 0 ≤ (x3_1 : Int) := of_decide_eq_true (by first | (with_reducible assumption) | assumption)
          have q188 : x3_1 < (l0.length : Int) := of_decide_eq_true (by first | (with_reducible assumption) | assumption)
          obtain ⟨ad188, e188, hx188_0, hx188_1, hx188_2, hx188_3, hx188_4, hx188_5⟩ := at_T23 HR0.out x3_1 p188 q188
          obtain rfl : ad186 = ad188 := (by injection e188)
          replace p188 := eq_true p188
          replace q188 := eq_true q188
          have p189 : 0 ≤ (x3_1 : Int) := of_decide_eq_true (by first | (with_reducible assumption) | assumption)
          have q189 : x3_1 < (l0.length : Int) := of_decide_eq_true (by first | (with_reducible assumption) | assumption)
          obtain ⟨ad189, e189, hx189_0, hx189_1, hx189_2, hx189_3, hx189_4, hx189_5⟩ := at_T23 HR0.out x3_1 p189 q189
          obtain rfl : ad186 = ad189 := (by injection e189)
          replace p189 := eq_true p189
          replace q189 := eq_true q189
          go_wp2
          go_ret
          exact ⟨by first | rfl | (simp; done) | (simp [*]; done), by repeat (first | exact Drawn0.refl _ | apply Drawn0.step)⟩
         ·rw [if_neg c8] at H
          have c8b0 : decide (400 < (((rd_T23 l0 x3_1).f5).size : Int)) = false := decide_eq_false c8
          have c8b1 : decide (400 < ((rd_T23 l0 x3_1).f5).size) = false := decide_eq_false (by omega)
          clear c8
          have H' := Aside0.mk H
          clear H
          have p186 : 0 ≤ (x3_1 : Int) := of_decide_eq_true (by first | (with_reducible assumption) | assumption)
          have q186 : x3_1 < (l0.length : Int) := of_decide_eq_true (by first | (with_reducible assumption) | assumption)
          obtain ⟨ad186, e186, hx186_0, hx186_1, hx186_2, hx186_3, hx186_4, hx186_5⟩ := at_T23 HR0.out x3_1 p186 q186
          cases e186
          replace p186 := eq_true p186
          replace q186 := eq_true q186
          have p187 : 0 ≤ (x3_1 : Int) := of_decide_eq_true (by first | (with_reducible assumption) | assumption)
          have q187 : x3_1 < (l0.length : Int) := of_decide_eq_true (by first | (with_reducible assumption) | assumption)
          obtain ⟨ad187, e187, hx187_0, hx187_1, hx187_2, hx187_3, hx187_4, hx187_5⟩ := at_T23 HR0.out x3_1 p187 q187
          obtain rfl : ad186 = ad187 := (by injection e187)
          replace p187 := eq_true p187
          replace q187 := eq_true q187
          have p188 : 0 ≤ (x3_1 : Int) := of_decide_eq_true (by first | (with_reducible assumption) | assumption)
          have q188 : x3_1 < (l0.length : Int) := of_decide_eq_true (by first | (with_reducible assumption) | assumption)
          obtain ⟨ad188, e188, hx188_0, hx188_1, hx188_2, hx188_3, hx188_4, hx188_5⟩ := at_T23 HR0.out x3_1 p188 q188
          obtain rfl : ad186 = ad188 := (by injection e188)
          replace p188 := eq_true p188
          replace q188 := eq_true q188
          have p189 : 0 ≤ (x3_1 : Int) := of_decide_eq_true (by first | (with_reducible assumption) | assumption)
          have q189 : x3_1 < (l0.length : Int) := of_decide_eq_true (by first | (with_reducible assumption) | assumption)
          obtain ⟨ad189, e189, hx189_0, hx189_1, hx189_2, hx189_3, hx189_4, hx189_5⟩ := at_T23 HR0.out x3_1 p189 q189
          obtain rfl : ad186 = ad189 := (by injection e189)
          replace p189 := eq_true p189
          replace q189 := eq_true q189
          go_wp2
          go_roundg k1
          case measure => have := HK1.out; omega
          case rel => exact ⟨(wrap64 (x3_1 + 1)), (by first | rfl | (simp; done) | (simp [*]; done)), H', ⟨by have := HK1.out; omega⟩, by repeat (first | exact Drawn0.refl _ | apply Drawn0.step)⟩
     ·rw [if_neg c4] at H
      exact absurd H (by simp)
    ·rw [if_neg c3] at H
     have c3b0 : decide (x3_1 < (l0.length : Int)) = false := decide_eq_false c3
     clear c3
     obtain rfl := Option.some.inj H
     go_wp2
     go_ret
     exact ⟨by first | rfl | (simp; done) | (simp [*]; done), by repeat (first | exact Drawn0.refl _ | apply Drawn0.step)⟩

end Go.Proofs.YtofdpgcnconibaaGreatDoor.PA
