-- WRITTEN BY a program of this session (pp.sh)
import Derived.Test.YtgnffienfjigiaaDoorPAx0
namespace Go.Proofs.YtgnffienfjigiaaDoor.PA
open Go.RowKit Go.Proofs.YtgnffienfjigiaaDoorW.PrintWords Go.Proofs.YtgnffienfjigiaaDoorW.PrintLast Go.Proofs.YtgnffienfjigiaaDoorW.PrintMore Go.Proofs.YtgnffienfjigiaaDoor.Plain
attribute [local go_sem] max2_int min2_int max_two min_two max_three min_three max_four min_four binOp_leq_s binOp_gtr_s binOp_geq_s lit_byte   -- for this text's walks alone
set_option linter.unusedVariables false
set_option linter.unusedSimpArgs false

/-! ### coppiceref13_at: function 34 -/
def coppiceref13_at.l0 : Nat → List (S39) → Int → Int → Option (Int)
 | 0, _, _, _ => none
 | k + 1, x0, x1, x5 => if x5 < (x0.length : Int) then (if 0 ≤ x5 then (if ((rd_T39 x0 x5).f0) = (wrap64 (Int.tdiv x1 64)) then (if 0 ≤ (Int.tmod x1 64) then (if (Int.tmod x1 64) < (((rd_T39 x0 x5).f1).size : Int) then (some (bt ((rd_T39 x0 x5).f1) (Int.tmod x1 64))) else (none)) else (none)) else (coppiceref13_at.l0 k x0 x1 (wrap64 (x5 + 1)))) else (none)) else (some 0)
def coppiceref13_at.f (k : Nat) (l0 : List (S39)) (a1 : Int) : Option (Int) := coppiceref13_at.l0 k l0 a1 0
theorem coppiceref13_at.mono_l : ∀ k, (∀ y0 y1 y2, LeO (coppiceref13_at.l0 k y0 y1 y2) (coppiceref13_at.l0 (k + 1) y0 y1 y2))
 | 0 => fun _ _ _ r h => by simp [coppiceref13_at.l0] at h
 | k + 1 => by
  have ih0 := coppiceref13_at.mono_l k
  ·intro y0 y1 y2
   unfold coppiceref13_at.l0
   repeat' first
   | (with_reducible exact ih0 _ _ _)
   | (with_reducible exact LeO.refl _)
   | (with_reducible exact LeO.none _)
   | (with_reducible refine LeO.ite ?_ ?_)
   | (with_reducible refine LeO.bind ?_ (fun _ => ?_))
   | exact ih0 _ _ _
   | exact LeO.none _
   | refine LeO.ite ?_ ?_
   | refine LeO.bind ?_ (fun _ => ?_)
theorem coppiceref13_at.mono : ∀ a0 a1 k, LeO (coppiceref13_at.f k a0 a1) (coppiceref13_at.f (k + 1) a0 a1) := by
 intro a0 a1 k
 have ih0 := coppiceref13_at.mono_l k
 unfold coppiceref13_at.f
 repeat' first
   | (with_reducible exact ih0 _ _ _)
   | (with_reducible exact LeO.refl _)
   | (with_reducible exact LeO.none _)
   | (with_reducible refine LeO.ite ?_ ?_)
   | (with_reducible refine LeO.bind ?_ (fun _ => ?_))
   | exact ih0 _ _ _
   | exact LeO.none _
   | refine LeO.ite ?_ ?_
   | refine LeO.bind ?_ (fun _ => ?_)
set_option maxHeartbeats 8000000 in
set_option maxRecDepth 100000 in
theorem coppiceref13_at.calls (k : Nat) (A0 : Option Addr) (c0 : Nat) (l0 : List (S39)) (a1 : Int) (r : Int) (w : World) (hr0 : Kd.C k39 w A0 l0.length l0) (hc0 : l0.length ≤ c0) (h : coppiceref13_at.f k l0 a1 = some r) :
  Calls Tryd.prog 34 #[.slice A0 l0.length c0, .int .i64 a1] w fun e w' => e = .returned (.int .u8 r) ∧ Drawn0 w w' := by
 have HR0 := Aside0.mk hr0
 have HC0 := Aside0.mk hc0
 clear hr0 hc0
 have H : (coppiceref13_at.l0 k l0 a1 0) = some r := h
 clear h
 have H' := Aside0.mk H
 clear H
 go_enter Tryd.func34, Tryd.ntmps34
 go_wp2
 go_loopg [5] k (fun kq v5 w' => ∃ (x5_1 : Int), v5 = .int .i64 x5_1 ∧ Aside0 (coppiceref13_at.l0 kq l0 a1 x5_1 = some r) ∧ Aside0 (kq ≤ k) ∧ Drawn0 w w')
 case atStart => exact ⟨(0), (by first | rfl | (simp; done) | (simp [*]; done)), H', ⟨Nat.le_refl _⟩, by repeat (first | exact Drawn0.refl _ | apply Drawn0.step)⟩
 case round =>
  clear H'
  try clear p2
  obtain ⟨x5_1, rfl, HA, HK1, ⟨m1, rfl⟩⟩ := hrel
  cases gk with
  | zero => exact absurd HA.out (by simp [coppiceref13_at.l0])
  | succ k1 =>
   have H := HA.out
   clear HA
   simp only [coppiceref13_at.l0] at H
   by_cases c3 : x5_1 < (l0.length : Int)
   ·rw [if_pos c3] at H
    have c3b0 : decide (x5_1 < (l0.length : Int)) = true := decide_eq_true c3
    clear c3
    by_cases c4 : 0 ≤ x5_1
    ·rw [if_pos c4] at H
     have c4b0 : decide (0 ≤ x5_1) = true := decide_eq_true c4
     clear c4
     by_cases c5 : ((rd_T39 l0 x5_1).f0) = (wrap64 (Int.tdiv a1 64))
     ·rw [if_pos c5] at H
      have c5b0 : (((rd_T39 l0 x5_1).f0) == (wrap64 (Int.tdiv a1 64))) = true := beq_iff_eq.mpr c5
      have c5b1 : (((rd_T39 l0 x5_1).f0) != (wrap64 (Int.tdiv a1 64))) = false := bne_eq_false_iff_eq.mpr c5
      clear c5
      obtain ⟨ji6, hji6⟩ : ∃ j_ : Int, (Int.tmod a1 64) = j_ := ⟨_, rfl⟩
      replace H : (if 0 ≤ (ji6) then (if (ji6) < (((rd_T39 l0 x5_1).f1).size : Int) then (some (bt ((rd_T39 l0 x5_1).f1) (ji6))) else (none)) else (none)) = some r := by first | (rw [hji6] at H; exact H) | (simp only [hji6] at H ⊢; exact H)
      by_cases c7 : 0 ≤ (ji6)
      ·rw [if_pos c7] at H
       have c7b0 : decide (0 ≤ (ji6)) = true := decide_eq_true c7
       clear c7
       by_cases c8 : (ji6) < (((rd_T39 l0 x5_1).f1).size : Int)
       ·rw [if_pos c8] at H
        have c8b0 : decide ((ji6) < (((rd_T39 l0 x5_1).f1).size : Int)) = true := decide_eq_true c8
        clear c8
        obtain rfl := Option.some.inj H
        have p124 : 0 ≤ (x5_1 : Int) := of_decide_eq_true (by first | (with_reducible assumption) | assumption)
        have q124 : x5_1 < (l0.length : Int) := of_decide_eq_true (by first | (with_reducible assumption) | assumption)
        obtain ⟨ad124, e124, hx124_0, hx124_1⟩ := at_T39 HR0.out x5_1 p124 q124
        cases e124
        replace p124 := eq_true p124
        replace q124 := eq_true q124
        have p125 : 0 ≤ (x5_1 : Int) := of_decide_eq_true (by first | (with_reducible assumption) | assumption)
        have q125 : x5_1 < (l0.length : Int) := of_decide_eq_true (by first | (with_reducible assumption) | assumption)
        obtain ⟨ad125, e125, hx125_0, hx125_1⟩ := at_T39 HR0.out x5_1 p125 q125
        obtain rfl : ad124 = ad125 := (by injection e125)
        replace p125 := eq_true p125
        replace q125 := eq_true q125
        have p9 : 0 ≤ ((ji6) : Int) := of_decide_eq_true (by first | (with_reducible assumption) | assumption)
        have q9 : (ji6) < (((rd_T39 l0 x5_1).f1).size : Int) := of_decide_eq_true (by first | (with_reducible assumption) | assumption)
        have hx9 := bt_at ((rd_T39 l0 x5_1).f1) (ji6)
        replace p9 := eq_true p9
        replace q9 := eq_true q9
        go_wp2
        go_ret
        exact ⟨by first | rfl | (simp; done) | (simp only [← hji6] <;> (first | rfl | simp)) | (simp [*]; done), by repeat (first | exact Drawn0.refl _ | apply Drawn0.step)⟩
       ·rw [if_neg c8] at H
        exact absurd H (by simp)
      ·rw [if_neg c7] at H
       exact absurd H (by simp)
     ·rw [if_neg c5] at H
      have c5b0 : (((rd_T39 l0 x5_1).f0) == (wrap64 (Int.tdiv a1 64))) = false := beq_eq_false_iff_ne.mpr c5
      have c5b1 : (((rd_T39 l0 x5_1).f0) != (wrap64 (Int.tdiv a1 64))) = true := bne_iff_ne.mpr c5
      have H' := Aside0.mk H
      clear H
      have p124 : 0 ≤ (x5_1 : Int) := of_decide_eq_true (by first | (with_reducible assumption) | assumption)
      have q124 : x5_1 < (l0.length : Int) := of_decide_eq_true (by first | (with_reducible assumption) | assumption)
      obtain ⟨ad124, e124, hx124_0, hx124_1⟩ := at_T39 HR0.out x5_1 p124 q124
      cases e124
      replace p124 := eq_true p124
      replace q124 := eq_true q124
      go_wp2
      go_roundg k1
      case measure => have := HK1.out; omega
      case rel => exact ⟨(wrap64 (x5_1 + 1)), (by first | rfl | (simp; done) | (simp [*]; done)), H', ⟨by have := HK1.out; omega⟩, by repeat (first | exact Drawn0.refl _ | apply Drawn0.step)⟩
    ·rw [if_neg c4] at H
     exact absurd H (by simp)
   ·rw [if_neg c3] at H
    have c3b0 : decide (x5_1 < (l0.length : Int)) = false := decide_eq_false c3
    clear c3
    obtain rfl := Option.some.inj H
    go_wp2
    go_ret
    exact ⟨by first | rfl | (simp; done) | (simp [*]; done), by repeat (first | exact Drawn0.refl _ | apply Drawn0.step)⟩

end Go.Proofs.YtgnffienfjigiaaDoor.PA
