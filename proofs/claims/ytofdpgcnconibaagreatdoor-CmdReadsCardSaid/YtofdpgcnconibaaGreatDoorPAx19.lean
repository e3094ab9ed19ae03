-- WRITTEN BY a program of this session (pp.sh)
import Derived.Test.YtofdpgcnconibaaGreatDoorPAx0
namespace Go.Proofs.YtofdpgcnconibaaGreatDoor.PA
open Go.RowKit Go.Proofs.YtofdpgcnconibaaGreatDoorW.PrintWords Go.Proofs.YtofdpgcnconibaaGreatDoorW.PrintLast Go.Proofs.YtofdpgcnconibaaGreatDoorW.PrintMore Go.Proofs.YtofdpgcnconibaaGreatDoor.Plain
attribute [local go_sem] max2_int min2_int max_two min_two max_three min_three max_four min_four binOp_leq_s binOp_gtr_s binOp_geq_s lit_byte   -- for this text's walks alone
set_option linter.unusedVariables false
set_option linter.unusedSimpArgs false

/-! ### coppiceref19_Has: function 24 -/
def coppiceref19_Has.f (a0 : Int) : Option (Bool × Bool × Bool × Bool) := if a0 = 4 then (if a0 = 12 then (if a0 = 3 then (some (true, true, false, true)) else (if a0 = 9 then (some (true, true, false, true)) else (some (true, true, false, (a0 == 12))))) else (if a0 = 3 then (some (true, (a0 == 13), false, true)) else (if a0 = 9 then (some (true, (a0 == 13), false, true)) else (some (true, (a0 == 13), false, (a0 == 12)))))) else (if a0 = 12 then (if a0 = 3 then (if a0 = 5 then (some ((a0 == 5), true, false, true)) else (some ((a0 == 5), true, false, true))) else (if a0 = 9 then (if a0 = 5 then (some ((a0 == 5), true, false, true)) else (some ((a0 == 5), true, false, true))) else (if a0 = 5 then (some ((a0 == 5), true, false, (a0 == 12))) else (some ((a0 == 5), true, false, (a0 == 12)))))) else (if a0 = 3 then (if a0 = 5 then (some ((a0 == 5), (a0 == 13), false, true)) else (if a0 = 13 then (some ((a0 == 5), (a0 == 13), false, true)) else (if a0 = 6 then (some ((a0 == 5), (a0 == 13), false, true)) else (some ((a0 == 5), (a0 == 13), (a0 != 7), true))))) else (if a0 = 9 then (if a0 = 5 then (some ((a0 == 5), (a0 == 13), false, true)) else (if a0 = 13 then (some ((a0 == 5), (a0 == 13), false, true)) else (if a0 = 6 then (some ((a0 == 5), (a0 == 13), false, true)) else (some ((a0 == 5), (a0 == 13), (a0 != 7), true))))) else (if a0 = 5 then (some ((a0 == 5), (a0 == 13), false, (a0 == 12))) else (if a0 = 13 then (some ((a0 == 5), (a0 == 13), false, (a0 == 12))) else (if a0 = 6 then (some ((a0 == 5), (a0 == 13), false, (a0 == 12))) else (some ((a0 == 5), (a0 == 13), (a0 != 7), (a0 == 12)))))))))
set_option maxHeartbeats 8000000 in
set_option maxRecDepth 100000 in
theorem coppiceref19_Has.calls (a0 : Int) (r1 : Bool) (r2 : Bool) (r3 : Bool) (r4 : Bool) (w : World) (h : coppiceref19_Has.f a0 = some (r1, r2, r3, r4)) :
  Calls Tryz.prog 24 #[.int .i64 a0] w fun e w' => e = .returned (.tuple #[.bool r1, .bool r2, .bool r3, .bool r4]) ∧ Drawn0 w w' := by
 have H : (if a0 = 4 then (if a0 = 12 then (if a0 = 3 then (some (true, true, false, true)) else (if a0 = 9 then (some (true, true, false, true)) else (some (true, true, false, (a0 == 12))))) else (if a0 = 3 then (some (true, (a0 == 13), false, true)) else (if a0 = 9 then (some (true, (a0 == 13), false, true)) else (some (true, (a0 == 13), false, (a0 == 12)))))) else (if a0 = 12 then (if a0 = 3 then (if a0 = 5 then (some ((a0 == 5), true, false, true)) else (some ((a0 == 5), true, false, true))) else (if a0 = 9 then (if a0 = 5 then (some ((a0 == 5), true, false, true)) else (some ((a0 == 5), true, false, true))) else (if a0 = 5 then (some ((a0 == 5), true, false, (a0 == 12))) else (some ((a0 == 5), true, false, (a0 == 12)))))) else (if a0 = 3 then (if a0 = 5 then (some ((a0 == 5), (a0 == 13), false, true)) else (if a0 = 13 then (some ((a0 == 5), (a0 == 13), false, true)) else (if a0 = 6 then (some ((a0 == 5), (a0 == 13), false, true)) else (some ((a0 == 5), (a0 == 13), (a0 != 7), true))))) else (if a0 = 9 then (if a0 = 5 then (some ((a0 == 5), (a0 == 13), false, true)) else (if a0 = 13 then (some ((a0 == 5), (a0 == 13), false, true)) else (if a0 = 6 then (some ((a0 == 5), (a0 == 13), false, true)) else (some ((a0 == 5), (a0 == 13), (a0 != 7), true))))) else (if a0 = 5 then (some ((a0 == 5), (a0 == 13), false, (a0 == 12))) else (if a0 = 13 then (some ((a0 == 5), (a0 == 13), false, (a0 == 12))) else (if a0 = 6 then (some ((a0 == 5), (a0 == 13), false, (a0 == 12))) else (some ((a0 == 5), (a0 == 13), (a0 != 7), (a0 == 12)))))))))) = some (r1, r2, r3, r4) := h
 clear h
 by_cases c2 : a0 = 4
 ·rw [if_pos c2] at H
  have c2b0 : (a0 == 4) = true := beq_iff_eq.mpr c2
  have c2b1 : (a0 != 4) = false := bne_eq_false_iff_eq.mpr c2
  clear c2
  by_cases c3 : a0 = 12
  ·rw [if_pos c3] at H
   have c3b0 : (a0 == 12) = true := beq_iff_eq.mpr c3
   have c3b1 : (a0 != 12) = false := bne_eq_false_iff_eq.mpr c3
   clear c3
   by_cases c4 : a0 = 3
   ·rw [if_pos c4] at H
    have c4b0 : (a0 == 3) = true := beq_iff_eq.mpr c4
    have c4b1 : (a0 != 3) = false := bne_eq_false_iff_eq.mpr c4
    clear c4
    simp only [Option.some.injEq, Prod.mk.injEq] at H
    obtain ⟨rfl, rfl, rfl, rfl⟩ := H
    go_enter Tryz.func24, Tryz.ntmps24
    go_wp2
    refine bodyPost_ret (results_list (rs := [.tmp 2, .tmp 3, .tmp 4, .tmp 5]) rfl (by simp) (.tmp (.tmp (.tmp (.tmp .nil))))) rfl ?_
    exact ⟨by first | rfl | (simp; done) | (simp [*]; done), by repeat (first | exact Drawn0.refl _ | apply Drawn0.step)⟩
   ·rw [if_neg c4] at H
    have c4b0 : (a0 == 3) = false := beq_eq_false_iff_ne.mpr c4
    have c4b1 : (a0 != 3) = true := bne_iff_ne.mpr c4
    by_cases c5 : a0 = 9
    ·rw [if_pos c5] at H
     have c5b0 : (a0 == 9) = true := beq_iff_eq.mpr c5
     have c5b1 : (a0 != 9) = false := bne_eq_false_iff_eq.mpr c5
     clear c5
     simp only [Option.some.injEq, Prod.mk.injEq] at H
     obtain ⟨rfl, rfl, rfl, rfl⟩ := H
     go_enter Tryz.func24, Tryz.ntmps24
     go_wp2
     refine bodyPost_ret (results_list (rs := [.tmp 2, .tmp 3, .tmp 4, .tmp 5]) rfl (by simp) (.tmp (.tmp (.tmp (.tmp .nil))))) rfl ?_
     exact ⟨by first | rfl | (simp; done) | (simp [*]; done), by repeat (first | exact Drawn0.refl _ | apply Drawn0.step)⟩
    ·rw [if_neg c5] at H
     have c5b0 : (a0 == 9) = false := beq_eq_false_iff_ne.mpr c5
     have c5b1 : (a0 != 9) = true := bne_iff_ne.mpr c5
     simp only [Option.some.injEq, Prod.mk.injEq] at H
     obtain ⟨rfl, rfl, rfl, rfl⟩ := H
     go_enter Tryz.func24, Tryz.ntmps24
     go_wp2
     refine bodyPost_ret (results_list (rs := [.tmp 2, .tmp 3, .tmp 4, .tmp 5]) rfl (by simp) (.tmp (.tmp (.tmp (.tmp .nil))))) rfl ?_
     exact ⟨by first | rfl | (simp; done) | (simp [*]; done), by repeat (first | exact Drawn0.refl _ | apply Drawn0.step)⟩
  ·rw [if_neg c3] at H
   have c3b0 : (a0 == 12) = false := beq_eq_false_iff_ne.mpr c3
   have c3b1 : (a0 != 12) = true := bne_iff_ne.mpr c3
   by_cases c6 : a0 = 3
   ·rw [if_pos c6] at H
    have c6b0 : (a0 == 3) = true := beq_iff_eq.mpr c6
    have c6b1 : (a0 != 3) = false := bne_eq_false_iff_eq.mpr c6
    clear c6
    simp only [Option.some.injEq, Prod.mk.injEq] at H
    obtain ⟨rfl, rfl, rfl, rfl⟩ := H
    go_enter Tryz.func24, Tryz.ntmps24
    go_wp2
    refine bodyPost_ret (results_list (rs := [.tmp 2, .tmp 3, .tmp 4, .tmp 5]) rfl (by simp) (.tmp (.tmp (.tmp (.tmp .nil))))) rfl ?_
    exact ⟨by first | rfl | (simp; done) | (simp [*]; done), by repeat (first | exact Drawn0.refl _ | apply Drawn0.step)⟩
   ·rw [if_neg c6] at H
    have c6b0 : (a0 == 3) = false := beq_eq_false_iff_ne.mpr c6
    have c6b1 : (a0 != 3) = true := bne_iff_ne.mpr c6
    by_cases c7 : a0 = 9
    ·rw [if_pos c7] at H
     have c7b0 : (a0 == 9) = true := beq_iff_eq.mpr c7
     have c7b1 : (a0 != 9) = false := bne_eq_false_iff_eq.mpr c7
     clear c7
     simp only [Option.some.injEq, Prod.mk.injEq] at H
     obtain ⟨rfl, rfl, rfl, rfl⟩ := H
     go_enter Tryz.func24, Tryz.ntmps24
     go_wp2
     refine bodyPost_ret (results_list (rs := [.tmp 2, .tmp 3, .tmp 4, .tmp 5]) rfl (by simp) (.tmp (.tmp (.tmp (.tmp .nil))))) rfl ?_
     exact ⟨by first | rfl | (simp; done) | (simp [*]; done), by repeat (first | exact Drawn0.refl _ | apply Drawn0.step)⟩
    ·rw [if_neg c7] at H
     have c7b0 : (a0 == 9) = false := beq_eq_false_iff_ne.mpr c7
     have c7b1 : (a0 != 9) = true := bne_iff_ne.mpr c7
     simp only [Option.some.injEq, Prod.mk.injEq] at H
     obtain ⟨rfl, rfl, rfl, rfl⟩ := H
     go_enter Tryz.func24, Tryz.ntmps24
     go_wp2
     refine bodyPost_ret (results_list (rs := [.tmp 2, .tmp 3, .tmp 4, .tmp 5]) rfl (by simp) (.tmp (.tmp (.tmp (.tmp .nil))))) rfl ?_
     exact ⟨by first | rfl | (simp; done) | (simp [*]; done), by repeat (first | exact Drawn0.refl _ | apply Drawn0.step)⟩
 ·rw [if_neg c2] at H
  have c2b0 : (a0 == 4) = false := beq_eq_false_iff_ne.mpr c2
  have c2b1 : (a0 != 4) = true := bne_iff_ne.mpr c2
  by_cases c8 : a0 = 12
  ·rw [if_pos c8] at H
   have c8b0 : (a0 == 12) = true := beq_iff_eq.mpr c8
   have c8b1 : (a0 != 12) = false := bne_eq_false_iff_eq.mpr c8
   clear c8
   by_cases c9 : a0 = 3
   ·rw [if_pos c9] at H
    have c9b0 : (a0 == 3) = true := beq_iff_eq.mpr c9
    have c9b1 : (a0 != 3) = false := bne_eq_false_iff_eq.mpr c9
    clear c9
    by_cases c10 : a0 = 5
    ·rw [if_pos c10] at H
     have c10b0 : (a0 == 5) = true := beq_iff_eq.mpr c10
     have c10b1 : (a0 != 5) = false := bne_eq_false_iff_eq.mpr c10
     clear c10
     simp only [Option.some.injEq, Prod.mk.injEq] at H
     obtain ⟨rfl, rfl, rfl, rfl⟩ := H
     go_enter Tryz.func24, Tryz.ntmps24
     go_wp2
     refine bodyPost_ret (results_list (rs := [.tmp 2, .tmp 3, .tmp 4, .tmp 5]) rfl (by simp) (.tmp (.tmp (.tmp (.tmp .nil))))) rfl ?_
     exact ⟨by first | rfl | (simp; done) | (simp [*]; done), by repeat (first | exact Drawn0.refl _ | apply Drawn0.step)⟩
    ·rw [if_neg c10] at H
     have c10b0 : (a0 == 5) = false := beq_eq_false_iff_ne.mpr c10
     have c10b1 : (a0 != 5) = true := bne_iff_ne.mpr c10
     simp only [Option.some.injEq, Prod.mk.injEq] at H
     obtain ⟨rfl, rfl, rfl, rfl⟩ := H
     go_enter Tryz.func24, Tryz.ntmps24
     go_wp2
     refine bodyPost_ret (results_list (rs := [.tmp 2, .tmp 3, .tmp 4, .tmp 5]) rfl (by simp) (.tmp (.tmp (.tmp (.tmp .nil))))) rfl ?_
     exact ⟨by first | rfl | (simp; done) | (simp [*]; done), by repeat (first | exact Drawn0.refl _ | apply Drawn0.step)⟩
   ·rw [if_neg c9] at H
    have c9b0 : (a0 == 3) = false := beq_eq_false_iff_ne.mpr c9
    have c9b1 : (a0 != 3) = true := bne_iff_ne.mpr c9
    by_cases c11 : a0 = 9
    ·rw [if_pos c11] at H
     have c11b0 : (a0 == 9) = true := beq_iff_eq.mpr c11
     have c11b1 : (a0 != 9) = false := bne_eq_false_iff_eq.mpr c11
     clear c11
     by_cases c12 : a0 = 5
     ·rw [if_pos c12] at H
      have c12b0 : (a0 == 5) = true := beq_iff_eq.mpr c12
      have c12b1 : (a0 != 5) = false := bne_eq_false_iff_eq.mpr c12
      clear c12
      simp only [Option.some.injEq, Prod.mk.injEq] at H
      obtain ⟨rfl, rfl, rfl, rfl⟩ := H
      go_enter Tryz.func24, Tryz.ntmps24
      go_wp2
      refine bodyPost_ret (results_list (rs := [.tmp 2, .tmp 3, .tmp 4, .tmp 5]) rfl (by simp) (.tmp (.tmp (.tmp (.tmp .nil))))) rfl ?_
      exact ⟨by first | rfl | (simp; done) | (simp [*]; done), by repeat (first | exact Drawn0.refl _ | apply Drawn0.step)⟩
     ·rw [if_neg c12] at H
      have c12b0 : (a0 == 5) = false := beq_eq_false_iff_ne.mpr c12
      have c12b1 : (a0 != 5) = true := bne_iff_ne.mpr c12
      simp only [Option.some.injEq, Prod.mk.injEq] at H
      obtain ⟨rfl, rfl, rfl, rfl⟩ := H
      go_enter Tryz.func24, Tryz.ntmps24
      go_wp2
      refine bodyPost_ret (results_list (rs := [.tmp 2, .tmp 3, .tmp 4, .tmp 5]) rfl (by simp) (.tmp (.tmp (.tmp (.tmp .nil))))) rfl ?_
      exact ⟨by first | rfl | (simp; done) | (simp [*]; done), by repeat (first | exact Drawn0.refl _ | apply Drawn0.step)⟩
    ·rw [if_neg c11] at H
     have c11b0 : (a0 == 9) = false := beq_eq_false_iff_ne.mpr c11
     have c11b1 : (a0 != 9) = true := bne_iff_ne.mpr c11
     by_cases c13 : a0 = 5
     ·rw [if_pos c13] at H
      have c13b0 : (a0 == 5) = true := beq_iff_eq.mpr c13
      have c13b1 : (a0 != 5) = false := bne_eq_false_iff_eq.mpr c13
      clear c13
      simp only [Option.some.injEq, Prod.mk.injEq] at H
      obtain ⟨rfl, rfl, rfl, rfl⟩ := H
      go_enter Tryz.func24, Tryz.ntmps24
      go_wp2
      refine bodyPost_ret (results_list (rs := [.tmp 2, .tmp 3, .tmp 4, .tmp 5]) rfl (by simp) (.tmp (.tmp (.tmp (.tmp .nil))))) rfl ?_
      exact ⟨by first | rfl | (simp; done) | (simp [*]; done), by repeat (first | exact Drawn0.refl _ | apply Drawn0.step)⟩
     ·rw [if_neg c13] at H
      have c13b0 : (a0 == 5) = false := beq_eq_false_iff_ne.mpr c13
      have c13b1 : (a0 != 5) = true := bne_iff_ne.mpr c13
      simp only [Option.some.injEq, Prod.mk.injEq] at H
      obtain ⟨rfl, rfl, rfl, rfl⟩ := H
      go_enter Tryz.func24, Tryz.ntmps24
      go_wp2
      refine bodyPost_ret (results_list (rs := [.tmp 2, .tmp 3, .tmp 4, .tmp 5]) rfl (by simp) (.tmp (.tmp (.tmp (.tmp .nil))))) rfl ?_
      exact ⟨by first | rfl | (simp; done) | (simp [*]; done), by repeat (first | exact Drawn0.refl _ | apply Drawn0.step)⟩
  ·rw [if_neg c8] at H
   have c8b0 : (a0 == 12) = false := beq_eq_false_iff_ne.mpr c8
   have c8b1 : (a0 != 12) = true := bne_iff_ne.mpr c8
   by_cases c14 : a0 = 3
   ·rw [if_pos c14] at H
    have c14b0 : (a0 == 3) = true := beq_iff_eq.mpr c14
    have c14b1 : (a0 != 3) = false := bne_eq_false_iff_eq.mpr c14
    clear c14
    by_cases c15 : a0 = 5
    ·rw [if_pos c15] at H
     have c15b0 : (a0 == 5) = true := beq_iff_eq.mpr c15
     have c15b1 : (a0 != 5) = false := bne_eq_false_iff_eq.mpr c15
     clear c15
     simp only [Option.some.injEq, Prod.mk.injEq] at H
     obtain ⟨rfl, rfl, rfl, rfl⟩ := H
     go_enter Tryz.func24, Tryz.ntmps24
     go_wp2
     refine bodyPost_ret (results_list (rs := [.tmp 2, .tmp 3, .tmp 4, .tmp 5]) rfl (by simp) (.tmp (.tmp (.tmp (.tmp .nil))))) rfl ?_
     exact ⟨by first | rfl | (simp; done) | (simp [*]; done), by repeat (first | exact Drawn0.refl _ | apply Drawn0.step)⟩
    ·rw [if_neg c15] at H
     have c15b0 : (a0 == 5) = false := beq_eq_false_iff_ne.mpr c15
     have c15b1 : (a0 != 5) = true := bne_iff_ne.mpr c15
     by_cases c16 : a0 = 13
     ·rw [if_pos c16] at H
      have c16b0 : (a0 == 13) = true := beq_iff_eq.mpr c16
      have c16b1 : (a0 != 13) = false := bne_eq_false_iff_eq.mpr c16
      clear c16
      simp only [Option.some.injEq, Prod.mk.injEq] at H
      obtain ⟨rfl, rfl, rfl, rfl⟩ := H
      go_enter Tryz.func24, Tryz.ntmps24
      go_wp2
      refine bodyPost_ret (results_list (rs := [.tmp 2, .tmp 3, .tmp 4, .tmp 5]) rfl (by simp) (.tmp (.tmp (.tmp (.tmp .nil))))) rfl ?_
      exact ⟨by first | rfl | (simp; done) | (simp [*]; done), by repeat (first | exact Drawn0.refl _ | apply Drawn0.step)⟩
     ·rw [if_neg c16] at H
      have c16b0 : (a0 == 13) = false := beq_eq_false_iff_ne.mpr c16
      have c16b1 : (a0 != 13) = true := bne_iff_ne.mpr c16
      by_cases c17 : a0 = 6
      ·rw [if_pos c17] at H
       have c17b0 : (a0 == 6) = true := beq_iff_eq.mpr c17
       have c17b1 : (a0 != 6) = false := bne_eq_false_iff_eq.mpr c17
       clear c17
       simp only [Option.some.injEq, Prod.mk.injEq] at H
       obtain ⟨rfl, rfl, rfl, rfl⟩ := H
       go_enter Tryz.func24, Tryz.ntmps24
       go_wp2
       refine bodyPost_ret (results_list (rs := [.tmp 2, .tmp 3, .tmp 4, .tmp 5]) rfl (by simp) (.tmp (.tmp (.tmp (.tmp .nil))))) rfl ?_
       exact ⟨by first | rfl | (simp; done) | (simp [*]; done), by repeat (first | exact Drawn0.refl _ | apply Drawn0.step)⟩
      ·rw [if_neg c17] at H
       have c17b0 : (a0 == 6) = false := beq_eq_false_iff_ne.mpr c17
       have c17b1 : (a0 != 6) = true := bne_iff_ne.mpr c17
       simp only [Option.some.injEq, Prod.mk.injEq] at H
       obtain ⟨rfl, rfl, rfl, rfl⟩ := H
       go_enter Tryz.func24, Tryz.ntmps24
       go_wp2
       refine bodyPost_ret (results_list (rs := [.tmp 2, .tmp 3, .tmp 4, .tmp 5]) rfl (by simp) (.tmp (.tmp (.tmp (.tmp .nil))))) rfl ?_
       exact ⟨by first | rfl | (simp; done) | (simp [*]; done), by repeat (first | exact Drawn0.refl _ | apply Drawn0.step)⟩
   ·rw [if_neg c14] at H
    have c14b0 : (a0 == 3) = false := beq_eq_false_iff_ne.mpr c14
    have c14b1 : (a0 != 3) = true := bne_iff_ne.mpr c14
    by_cases c18 : a0 = 9
    ·rw [if_pos c18] at H
     have c18b0 : (a0 == 9) = true := beq_iff_eq.mpr c18
     have c18b1 : (a0 != 9) = false := bne_eq_false_iff_eq.mpr c18
     clear c18
     by_cases c19 : a0 = 5
     ·rw [if_pos c19] at H
      have c19b0 : (a0 == 5) = true := beq_iff_eq.mpr c19
      have c19b1 : (a0 != 5) = false := bne_eq_false_iff_eq.mpr c19
      clear c19
      simp only [Option.some.injEq, Prod.mk.injEq] at H
      obtain ⟨rfl, rfl, rfl, rfl⟩ := H
      go_enter Tryz.func24, Tryz.ntmps24
      go_wp2
      refine bodyPost_ret (results_list (rs := [.tmp 2, .tmp 3, .tmp 4, .tmp 5]) rfl (by simp) (.tmp (.tmp (.tmp (.tmp .nil))))) rfl ?_
      exact ⟨by first | rfl | (simp; done) | (simp [*]; done), by repeat (first | exact Drawn0.refl _ | apply Drawn0.step)⟩
     ·rw [if_neg c19] at H
      have c19b0 : (a0 == 5) = false := beq_eq_false_iff_ne.mpr c19
      have c19b1 : (a0 != 5) = true := bne_iff_ne.mpr c19
      by_cases c20 : a0 = 13
      ·rw [if_pos c20] at H
       have c20b0 : (a0 == 13) = true := beq_iff_eq.mpr c20
       have c20b1 : (a0 != 13) = false := bne_eq_false_iff_eq.mpr c20
       clear c20
       simp only [Option.some.injEq, Prod.mk.injEq] at H
       obtain ⟨rfl, rfl, rfl, rfl⟩ := H
       go_enter Tryz.func24, Tryz.ntmps24
       go_wp2
       refine bodyPost_ret (results_list (rs := [.tmp 2, .tmp 3, .tmp 4, .tmp 5]) rfl (by simp) (.tmp (.tmp (.tmp (.tmp .nil))))) rfl ?_
       exact ⟨by first | rfl | (simp; done) | (simp [*]; done), by repeat (first | exact Drawn0.refl _ | apply Drawn0.step)⟩
      ·rw [if_neg c20] at H
       have c20b0 : (a0 == 13) = false := beq_eq_false_iff_ne.mpr c20
       have c20b1 : (a0 != 13) = true := bne_iff_ne.mpr c20
       by_cases c21 : a0 = 6
       ·rw [if_pos c21] at H
        have c21b0 : (a0 == 6) = true := beq_iff_eq.mpr c21
        have c21b1 : (a0 != 6) = false := bne_eq_false_iff_eq.mpr c21
        clear c21
        simp only [Option.some.injEq, Prod.mk.injEq] at H
        obtain ⟨rfl, rfl, rfl, rfl⟩ := H
        go_enter Tryz.func24, Tryz.ntmps24
        go_wp2
        refine bodyPost_ret (results_list (rs := [.tmp 2, .tmp 3, .tmp 4, .tmp 5]) rfl (by simp) (.tmp (.tmp (.tmp (.tmp .nil))))) rfl ?_
        exact ⟨by first | rfl | (simp; done) | (simp [*]; done), by repeat (first | exact Drawn0.refl _ | apply Drawn0.step)⟩
       ·rw [if_neg c21] at H
        have c21b0 : (a0 == 6) = false := beq_eq_false_iff_ne.mpr c21
        have c21b1 : (a0 != 6) = true := bne_iff_ne.mpr c21
        simp only [Option.some.injEq, Prod.mk.injEq] at H
        obtain ⟨rfl, rfl, rfl, rfl⟩ := H
        go_enter Tryz.func24, Tryz.ntmps24
        go_wp2
        refine bodyPost_ret (results_list (rs := [.tmp 2, .tmp 3, .tmp 4, .tmp 5]) rfl (by simp) (.tmp (.tmp (.tmp (.tmp .nil))))) rfl ?_
        exact ⟨by first | rfl | (simp; done) | (simp [*]; done), by repeat (first | exact Drawn0.refl _ | apply Drawn0.step)⟩
    ·rw [if_neg c18] at H
     have c18b0 : (a0 == 9) = false := beq_eq_false_iff_ne.mpr c18
     have c18b1 : (a0 != 9) = true := bne_iff_ne.mpr c18
     by_cases c22 : a0 = 5
     ·rw [if_pos c22] at H
      have c22b0 : (a0 == 5) = true := beq_iff_eq.mpr c22
      have c22b1 : (a0 != 5) = false := bne_eq_false_iff_eq.mpr c22
      clear c22
      simp only [Option.some.injEq, Prod.mk.injEq] at H
      obtain ⟨rfl, rfl, rfl, rfl⟩ := H
      go_enter Tryz.func24, Tryz.ntmps24
      go_wp2
      refine bodyPost_ret (results_list (rs := [.tmp 2, .tmp 3, .tmp 4, .tmp 5]) rfl (by simp) (.tmp (.tmp (.tmp (.tmp .nil))))) rfl ?_
      exact ⟨by first | rfl | (simp; done) | (simp [*]; done), by repeat (first | exact Drawn0.refl _ | apply Drawn0.step)⟩
     ·rw [if_neg c22] at H
      have c22b0 : (a0 == 5) = false := beq_eq_false_iff_ne.mpr c22
      have c22b1 : (a0 != 5) = true := bne_iff_ne.mpr c22
      by_cases c23 : a0 = 13
      ·rw [if_pos c23] at H
       have c23b0 : (a0 == 13) = true := beq_iff_eq.mpr c23
       have c23b1 : (a0 != 13) = false := bne_eq_false_iff_eq.mpr c23
       clear c23
       simp only [Option.some.injEq, Prod.mk.injEq] at H
       obtain ⟨rfl, rfl, rfl, rfl⟩ := H
       go_enter Tryz.func24, Tryz.ntmps24
       go_wp2
       refine bodyPost_ret (results_list (rs := [.tmp 2, .tmp 3, .tmp 4, .tmp 5]) rfl (by simp) (.tmp (.tmp (.tmp (.tmp .nil))))) rfl ?_
       exact ⟨by first | rfl | (simp; done) | (simp [*]; done), by repeat (first | exact Drawn0.refl _ | apply Drawn0.step)⟩
      ·rw [if_neg c23] at H
       have c23b0 : (a0 == 13) = false := beq_eq_false_iff_ne.mpr c23
       have c23b1 : (a0 != 13) = true := bne_iff_ne.mpr c23
       by_cases c24 : a0 = 6
       ·rw [if_pos c24] at H
        have c24b0 : (a0 == 6) = true := beq_iff_eq.mpr c24
        have c24b1 : (a0 != 6) = false := bne_eq_false_iff_eq.mpr c24
        clear c24
        simp only [Option.some.injEq, Prod.mk.injEq] at H
        obtain ⟨rfl, rfl, rfl, rfl⟩ := H
        go_enter Tryz.func24, Tryz.ntmps24
        go_wp2
        refine bodyPost_ret (results_list (rs := [.tmp 2, .tmp 3, .tmp 4, .tmp 5]) rfl (by simp) (.tmp (.tmp (.tmp (.tmp .nil))))) rfl ?_
        exact ⟨by first | rfl | (simp; done) | (simp [*]; done), by repeat (first | exact Drawn0.refl _ | apply Drawn0.step)⟩
       ·rw [if_neg c24] at H
        have c24b0 : (a0 == 6) = false := beq_eq_false_iff_ne.mpr c24
        have c24b1 : (a0 != 6) = true := bne_iff_ne.mpr c24
        simp only [Option.some.injEq, Prod.mk.injEq] at H
        obtain ⟨rfl, rfl, rfl, rfl⟩ := H
        go_enter Tryz.func24, Tryz.ntmps24
        go_wp2
        refine bodyPost_ret (results_list (rs := [.tmp 2, .tmp 3, .tmp 4, .tmp 5]) rfl (by simp) (.tmp (.tmp (.tmp (.tmp .nil))))) rfl ?_
        exact ⟨by first | rfl | (simp; done) | (simp [*]; done), by repeat (first | exact Drawn0.refl _ | apply Drawn0.step)⟩

end Go.Proofs.YtofdpgcnconibaaGreatDoor.PA
