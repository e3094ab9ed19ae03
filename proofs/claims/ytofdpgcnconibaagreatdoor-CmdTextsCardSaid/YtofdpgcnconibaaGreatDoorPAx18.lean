-- WRITTEN BY a program of this session (mergeset.py): several texts as one
import Derived.Test.YtofdpgcnconibaaGreatDoorPAx0
set_option linter.unusedVariables false
set_option linter.unusedSimpArgs false
-- WRITTEN BY a program of this session (pp.sh)
namespace Go.Proofs.YtofdpgcnconibaaGreatDoor.PA
open Go.RowKit Go.Proofs.YtofdpgcnconibaaGreatDoorW.PrintWords Go.Proofs.YtofdpgcnconibaaGreatDoorW.PrintLast Go.Proofs.YtofdpgcnconibaaGreatDoorW.PrintMore Go.Proofs.YtofdpgcnconibaaGreatDoor.Plain
attribute [local go_sem] max2_int min2_int max_two min_two max_three min_three max_four min_four binOp_leq_s binOp_gtr_s binOp_geq_s lit_byte   -- for this text's walks alone
set_option linter.unusedVariables false
set_option linter.unusedSimpArgs false

/-! ### coppiceref19_Has: function 24 -/
def coppiceref19_Has.f (a0 : Int) : Option (Bool × Bool × Bool × Bool) := if a0 = 4 then (if a0 = 12 then (if a0 = 3 then (some (true, true, false, true)) else (if a0 = 9 then (some (true, true, false, true)) else (some (true, true, false, (a0 == 12))))) else (if a0 = 3 then (some (true, (a0 == 13), false, true)) else (if a0 = 9 then (some (true, (a0 == 13), false, true)) else (some (true, (a0 == 13), false, (a0 == 12)))))) else (if a0 = 12 then (if a0 = 3 then (if a0 = 5 then (some ((a0 == 5), true, false, true)) else (some ((a0 == 5), true, false, true))) else (if a0 = 9 then (if a0 = 5 then (some ((a0 == 5), true, false, true)) else (some ((a0 == 5), true, false, true))) else (if a0 = 5 then (some ((a0 == 5), true, false, (a0 == 12))) else (some ((a0 == 5), true, false, (a0 == 12)))))) else (if a0 = 3 then (if a0 = 5 then (some ((a0 == 5), (a0 == 13), false, true)) else (if a0 = 13 then (some ((a0 == 5), (a0 == 13), false, true)) else (if a0 = 6 then (some ((a0 == 5), (a0 == 13), false, true)) else (some ((a0 == 5), (a0 == 13), (a0 != 7), true))))) else (if a0 = 9 then (if a0 = 5 then (some ((a0 == 5), (a0 == 13), false, true)) else (if a0 = 13 then (some ((a0 == 5), (a0 == 13), false, true)) else (if a0 = 6 then (some ((a0 == 5), (a0 == 13), false, true)) else (some ((a0 == 5), (a0 == 13), (a0 != 7), true))))) else (if a0 = 5 then (some ((a0 == 5), (a0 == 13), false, (a0 == 12))) else (if a0 = 13 then (some ((a0 == 5), (a0 == 13), false, (a0 == 12))) else (if a0 = 6 then (some ((a0 == 5), (a0 == 13), false, (a0 == 12))) else (some ((a0 == 5), (a0 == 13), (a0 != 7), (a0 == 12)))))))))
set_option maxHeartbeats 8000000 in
set_option maxRecDepth 100000 in
theorem coppiceref19_Has.calls (a0 : Int) (r1 : Bool) (r2 : Bool) (r3 : Bool) (r4 : Bool) (w : World) (h : coppiceref19_Has.f a0 = some (r1, r2, r3, r4)) :
  Calls Tryz.prog 24 #[.int .i64 a0] w fun e w' => e = .returned (.tuple #[.bool r1, .bool r2, .bool r3, .bool r4]) ∧ Drawn0 w w' := by
 have H : (if a0 = 4 then (if a0 = 12 then (if a0 = 3 then (some (true, true, false, true)) else (if a0 = 9 then (some (true, true, false, true)) else (some (true, true, false, (a0 == 12))))) else (if a0 = 3 then (some (true, (a0 == 13), false, true)) else (if a0 = 9 then (some (true, (a0 == 13), false, true)) else (some (true, (a0 == 13), false, (a0 == 12)))))) else (if a0 = 12 then (if a0 = 3 then (if a0 = 5 then (some ((a0 == 5), true, false, true)) else (some ((a0 == 5), true, false, true))) else (if a0 = 9 then (if a0 = 5 then (some ((a0 == 5), true, false, true)) else (some ((a0 == 5), true, false, true))) else (if a0 = 5 then (some ((a0 == 5), true, false, (a0 == 12))) else (some ((a0 == 5), true, false, (a0 == 12)))))) else (if a0 = 3 then (if a0 = 5 then (some ((a0 == 5), (a0 == 13), false, true)) else (if a0 = 13 then (some ((a0 == 5), (a0 == 13), false, true)) else (if a0 = 6 then (some ((a0 == 5), (a0 == 13), false, true)) else (some ((a0 == 5), (a0 == 13), (a0 != 7), true))))) else (if a0 = 9 then (if a0 = 5 then (some ((a0 == 5), (a0 == 13), false, true)) else (if a0 = 13 then (some ((a0 == 5), (a0 == 13), false, true)) else (if a0 = 6 then (some ((a0 == 5), (a0 == 13), false, true)) else (some ((a0 == 5), (a0 == 13), (a0 != 7), true))))) else (if a0 = 5 then (some ((a0 == 5), (a0 == 13), false, (a0 == 12))) else (if a0 = 13 then (some ((a0 == 5), (a0 == 13), false, (a0 == 12))) else (if a0 = 6 then (some ((a0 == 5), (a0 == 13), false, (a0 == 12))) else (some ((a0 == 5), (a0 == 13), (a0 != 7), (a0 == 12)))))))))) = some (r1, r2, r3, r4) := h
 clear h
 by_cases c2 : a0 = 4
 ·rw [if_pos c2] at H
  have c2b0 : (a0 == 4) = true := beq_iff_eq.mpr c2
  have c2b1 : (a0 != 4) = false := bne_eq_false_iff_eq.mpr c2
  clear c2
  by_cases c3 : a0 = 12
  ·rw [if_pos c3] at H
   have c3b0 : (a0 == 12) = true := beq_iff_eq.mpr c3
   have c3b1 : (a0 != 12) = false := bne_eq_false_iff_eq.mpr c3
   clear c3
   by_cases c4 : a0 = 3
   ·rw [if_pos c4] at H
    have c4b0 : (a0 == 3) = true := beq_iff_eq.mpr c4
    have c4b1 : (a0 != 3) = false := bne_eq_false_iff_eq.mpr c4
    clear c4
    simp only [Option.some.injEq, Prod.mk.injEq] at H
    obtain ⟨rfl, rfl, rfl, rfl⟩ := H
    go_enter Tryz.func24, Tryz.ntmps24
    go_wp2
    refine bodyPost_ret (results_list (rs := [.tmp 2, .tmp 3, .tmp 4, .tmp 5]) rfl (by simp) (.tmp (.tmp (.tmp (.tmp .nil))))) rfl ?_
    exact ⟨by (rfl), by repeat ((exact Drawn0.refl _))⟩
   ·rw [if_neg c4] at H
    have c4b0 : (a0 == 3) = false := beq_eq_false_iff_ne.mpr c4
    have c4b1 : (a0 != 3) = true := bne_iff_ne.mpr c4
    by_cases c5 : a0 = 9
    ·rw [if_pos c5] at H
     have c5b0 : (a0 == 9) = true := beq_iff_eq.mpr c5
     have c5b1 : (a0 != 9) = false := bne_eq_false_iff_eq.mpr c5
     clear c5
     simp only [Option.some.injEq, Prod.mk.injEq] at H
     obtain ⟨rfl, rfl, rfl, rfl⟩ := H
     go_enter Tryz.func24, Tryz.ntmps24
     go_wp2
     refine bodyPost_ret (results_list (rs := [.tmp 2, .tmp 3, .tmp 4, .tmp 5]) rfl (by simp) (.tmp (.tmp (.tmp (.tmp .nil))))) rfl ?_
     exact ⟨by (rfl), by repeat ((exact Drawn0.refl _))⟩
    ·rw [if_neg c5] at H
     have c5b0 : (a0 == 9) = false := beq_eq_false_iff_ne.mpr c5
     have c5b1 : (a0 != 9) = true := bne_iff_ne.mpr c5
     simp only [Option.some.injEq, Prod.mk.injEq] at H
     obtain ⟨rfl, rfl, rfl, rfl⟩ := H
     go_enter Tryz.func24, Tryz.ntmps24
     go_wp2
     refine bodyPost_ret (results_list (rs := [.tmp 2, .tmp 3, .tmp 4, .tmp 5]) rfl (by simp) (.tmp (.tmp (.tmp (.tmp .nil))))) rfl ?_
     exact ⟨by ((simp [*]; done)), by repeat ((exact Drawn0.refl _))⟩
  ·rw [if_neg c3] at H
   have c3b0 : (a0 == 12) = false := beq_eq_false_iff_ne.mpr c3
   have c3b1 : (a0 != 12) = true := bne_iff_ne.mpr c3
   by_cases c6 : a0 = 3
   ·rw [if_pos c6] at H
    have c6b0 : (a0 == 3) = true := beq_iff_eq.mpr c6
    have c6b1 : (a0 != 3) = false := bne_eq_false_iff_eq.mpr c6
    clear c6
    simp only [Option.some.injEq, Prod.mk.injEq] at H
    obtain ⟨rfl, rfl, rfl, rfl⟩ := H
    go_enter Tryz.func24, Tryz.ntmps24
    go_wp2
    refine bodyPost_ret (results_list (rs := [.tmp 2, .tmp 3, .tmp 4, .tmp 5]) rfl (by simp) (.tmp (.tmp (.tmp (.tmp .nil))))) rfl ?_
    exact ⟨by (rfl), by repeat ((exact Drawn0.refl _))⟩
   ·rw [if_neg c6] at H
    have c6b0 : (a0 == 3) = false := beq_eq_false_iff_ne.mpr c6
    have c6b1 : (a0 != 3) = true := bne_iff_ne.mpr c6
    by_cases c7 : a0 = 9
    ·rw [if_pos c7] at H
     have c7b0 : (a0 == 9) = true := beq_iff_eq.mpr c7
     have c7b1 : (a0 != 9) = false := bne_eq_false_iff_eq.mpr c7
     clear c7
     simp only [Option.some.injEq, Prod.mk.injEq] at H
     obtain ⟨rfl, rfl, rfl, rfl⟩ := H
     go_enter Tryz.func24, Tryz.ntmps24
     go_wp2
     refine bodyPost_ret (results_list (rs := [.tmp 2, .tmp 3, .tmp 4, .tmp 5]) rfl (by simp) (.tmp (.tmp (.tmp (.tmp .nil))))) rfl ?_
     exact ⟨by (rfl), by repeat ((exact Drawn0.refl _))⟩
    ·rw [if_neg c7] at H
     have c7b0 : (a0 == 9) = false := beq_eq_false_iff_ne.mpr c7
     have c7b1 : (a0 != 9) = true := bne_iff_ne.mpr c7
     simp only [Option.some.injEq, Prod.mk.injEq] at H
     obtain ⟨rfl, rfl, rfl, rfl⟩ := H
     go_enter Tryz.func24, Tryz.ntmps24
     go_wp2
     refine bodyPost_ret (results_list (rs := [.tmp 2, .tmp 3, .tmp 4, .tmp 5]) rfl (by simp) (.tmp (.tmp (.tmp (.tmp .nil))))) rfl ?_
     exact ⟨by ((simp [*]; done)), by repeat ((exact Drawn0.refl _))⟩
 ·rw [if_neg c2] at H
  have c2b0 : (a0 == 4) = false := beq_eq_false_iff_ne.mpr c2
  have c2b1 : (a0 != 4) = true := bne_iff_ne.mpr c2
  by_cases c8 : a0 = 12
  ·rw [if_pos c8] at H
   have c8b0 : (a0 == 12) = true := beq_iff_eq.mpr c8
   have c8b1 : (a0 != 12) = false := bne_eq_false_iff_eq.mpr c8
   clear c8
   by_cases c9 : a0 = 3
   ·rw [if_pos c9] at H
    have c9b0 : (a0 == 3) = true := beq_iff_eq.mpr c9
    have c9b1 : (a0 != 3) = false := bne_eq_false_iff_eq.mpr c9
    clear c9
    by_cases c10 : a0 = 5
    ·rw [if_pos c10] at H
     have c10b0 : (a0 == 5) = true := beq_iff_eq.mpr c10
     have c10b1 : (a0 != 5) = false := bne_eq_false_iff_eq.mpr c10
     clear c10
     simp only [Option.some.injEq, Prod.mk.injEq] at H
     obtain ⟨rfl, rfl, rfl, rfl⟩ := H
     go_enter Tryz.func24, Tryz.ntmps24
     go_wp2
     refine bodyPost_ret (results_list (rs := [.tmp 2, .tmp 3, .tmp 4, .tmp 5]) rfl (by simp) (.tmp (.tmp (.tmp (.tmp .nil))))) rfl ?_
     exact ⟨by ((simp [*]; done)), by repeat ((exact Drawn0.refl _))⟩
    ·rw [if_neg c10] at H
     have c10b0 : (a0 == 5) = false := beq_eq_false_iff_ne.mpr c10
     have c10b1 : (a0 != 5) = true := bne_iff_ne.mpr c10
     simp only [Option.some.injEq, Prod.mk.injEq] at H
     obtain ⟨rfl, rfl, rfl, rfl⟩ := H
     go_enter Tryz.func24, Tryz.ntmps24
     go_wp2
     refine bodyPost_ret (results_list (rs := [.tmp 2, .tmp 3, .tmp 4, .tmp 5]) rfl (by simp) (.tmp (.tmp (.tmp (.tmp .nil))))) rfl ?_
     exact ⟨by ((simp [*]; done)), by repeat ((exact Drawn0.refl _))⟩
   ·rw [if_neg c9] at H
    have c9b0 : (a0 == 3) = false := beq_eq_false_iff_ne.mpr c9
    have c9b1 : (a0 != 3) = true := bne_iff_ne.mpr c9
    by_cases c11 : a0 = 9
    ·rw [if_pos c11] at H
     have c11b0 : (a0 == 9) = true := beq_iff_eq.mpr c11
     have c11b1 : (a0 != 9) = false := bne_eq_false_iff_eq.mpr c11
     clear c11
     by_cases c12 : a0 = 5
     ·rw [if_pos c12] at H
      have c12b0 : (a0 == 5) = true := beq_iff_eq.mpr c12
      have c12b1 : (a0 != 5) = false := bne_eq_false_iff_eq.mpr c12
      clear c12
      simp only [Option.some.injEq, Prod.mk.injEq] at H
      obtain ⟨rfl, rfl, rfl, rfl⟩ := H
      go_enter Tryz.func24, Tryz.ntmps24
      go_wp2
      refine bodyPost_ret (results_list (rs := [.tmp 2, .tmp 3, .tmp 4, .tmp 5]) rfl (by simp) (.tmp (.tmp (.tmp (.tmp .nil))))) rfl ?_
      exact ⟨by ((simp [*]; done)), by repeat ((exact Drawn0.refl _))⟩
     ·rw [if_neg c12] at H
      have c12b0 : (a0 == 5) = false := beq_eq_false_iff_ne.mpr c12
      have c12b1 : (a0 != 5) = true := bne_iff_ne.mpr c12
      simp only [Option.some.injEq, Prod.mk.injEq] at H
      obtain ⟨rfl, rfl, rfl, rfl⟩ := H
      go_enter Tryz.func24, Tryz.ntmps24
      go_wp2
      refine bodyPost_ret (results_list (rs := [.tmp 2, .tmp 3, .tmp 4, .tmp 5]) rfl (by simp) (.tmp (.tmp (.tmp (.tmp .nil))))) rfl ?_
      exact ⟨by ((simp [*]; done)), by repeat ((exact Drawn0.refl _))⟩
    ·rw [if_neg c11] at H
     have c11b0 : (a0 == 9) = false := beq_eq_false_iff_ne.mpr c11
     have c11b1 : (a0 != 9) = true := bne_iff_ne.mpr c11
     by_cases c13 : a0 = 5
     ·rw [if_pos c13] at H
      have c13b0 : (a0 == 5) = true := beq_iff_eq.mpr c13
      have c13b1 : (a0 != 5) = false := bne_eq_false_iff_eq.mpr c13
      clear c13
      simp only [Option.some.injEq, Prod.mk.injEq] at H
      obtain ⟨rfl, rfl, rfl, rfl⟩ := H
      go_enter Tryz.func24, Tryz.ntmps24
      go_wp2
      refine bodyPost_ret (results_list (rs := [.tmp 2, .tmp 3, .tmp 4, .tmp 5]) rfl (by simp) (.tmp (.tmp (.tmp (.tmp .nil))))) rfl ?_
      exact ⟨by ((simp [*]; done)), by repeat ((exact Drawn0.refl _))⟩
     ·rw [if_neg c13] at H
      have c13b0 : (a0 == 5) = false := beq_eq_false_iff_ne.mpr c13
      have c13b1 : (a0 != 5) = true := bne_iff_ne.mpr c13
      simp only [Option.some.injEq, Prod.mk.injEq] at H
      obtain ⟨rfl, rfl, rfl, rfl⟩ := H
      go_enter Tryz.func24, Tryz.ntmps24
      go_wp2
      refine bodyPost_ret (results_list (rs := [.tmp 2, .tmp 3, .tmp 4, .tmp 5]) rfl (by simp) (.tmp (.tmp (.tmp (.tmp .nil))))) rfl ?_
      exact ⟨by ((simp [*]; done)), by repeat ((exact Drawn0.refl _))⟩
  ·rw [if_neg c8] at H
   have c8b0 : (a0 == 12) = false := beq_eq_false_iff_ne.mpr c8
   have c8b1 : (a0 != 12) = true := bne_iff_ne.mpr c8
   by_cases c14 : a0 = 3
   ·rw [if_pos c14] at H
    have c14b0 : (a0 == 3) = true := beq_iff_eq.mpr c14
    have c14b1 : (a0 != 3) = false := bne_eq_false_iff_eq.mpr c14
    clear c14
    by_cases c15 : a0 = 5
    ·rw [if_pos c15] at H
     have c15b0 : (a0 == 5) = true := beq_iff_eq.mpr c15
     have c15b1 : (a0 != 5) = false := bne_eq_false_iff_eq.mpr c15
     clear c15
     simp only [Option.some.injEq, Prod.mk.injEq] at H
     obtain ⟨rfl, rfl, rfl, rfl⟩ := H
     go_enter Tryz.func24, Tryz.ntmps24
     go_wp2
     refine bodyPost_ret (results_list (rs := [.tmp 2, .tmp 3, .tmp 4, .tmp 5]) rfl (by simp) (.tmp (.tmp (.tmp (.tmp .nil))))) rfl ?_
     exact ⟨by ((simp [*]; done)), by repeat ((exact Drawn0.refl _))⟩
    ·rw [if_neg c15] at H
     have c15b0 : (a0 == 5) = false := beq_eq_false_iff_ne.mpr c15
     have c15b1 : (a0 != 5) = true := bne_iff_ne.mpr c15
     by_cases c16 : a0 = 13
     ·rw [if_pos c16] at H
      have c16b0 : (a0 == 13) = true := beq_iff_eq.mpr c16
      have c16b1 : (a0 != 13) = false := bne_eq_false_iff_eq.mpr c16
      clear c16
      simp only [Option.some.injEq, Prod.mk.injEq] at H
      obtain ⟨rfl, rfl, rfl, rfl⟩ := H
      go_enter Tryz.func24, Tryz.ntmps24
      go_wp2
      refine bodyPost_ret (results_list (rs := [.tmp 2, .tmp 3, .tmp 4, .tmp 5]) rfl (by simp) (.tmp (.tmp (.tmp (.tmp .nil))))) rfl ?_
      exact ⟨by ((simp [*]; done)), by repeat ((exact Drawn0.refl _))⟩
     ·rw [if_neg c16] at H
      have c16b0 : (a0 == 13) = false := beq_eq_false_iff_ne.mpr c16
      have c16b1 : (a0 != 13) = true := bne_iff_ne.mpr c16
      by_cases c17 : a0 = 6
      ·rw [if_pos c17] at H
       have c17b0 : (a0 == 6) = true := beq_iff_eq.mpr c17
       have c17b1 : (a0 != 6) = false := bne_eq_false_iff_eq.mpr c17
       clear c17
       simp only [Option.some.injEq, Prod.mk.injEq] at H
       obtain ⟨rfl, rfl, rfl, rfl⟩ := H
       go_enter Tryz.func24, Tryz.ntmps24
       go_wp2
       refine bodyPost_ret (results_list (rs := [.tmp 2, .tmp 3, .tmp 4, .tmp 5]) rfl (by simp) (.tmp (.tmp (.tmp (.tmp .nil))))) rfl ?_
       exact ⟨by ((simp [*]; done)), by repeat ((exact Drawn0.refl _))⟩
      ·rw [if_neg c17] at H
       have c17b0 : (a0 == 6) = false := beq_eq_false_iff_ne.mpr c17
       have c17b1 : (a0 != 6) = true := bne_iff_ne.mpr c17
       simp only [Option.some.injEq, Prod.mk.injEq] at H
       obtain ⟨rfl, rfl, rfl, rfl⟩ := H
       go_enter Tryz.func24, Tryz.ntmps24
       go_wp2
       refine bodyPost_ret (results_list (rs := [.tmp 2, .tmp 3, .tmp 4, .tmp 5]) rfl (by simp) (.tmp (.tmp (.tmp (.tmp .nil))))) rfl ?_
       exact ⟨by ((simp [*]; done)), by repeat ((exact Drawn0.refl _))⟩
   ·rw [if_neg c14] at H
    have c14b0 : (a0 == 3) = false := beq_eq_false_iff_ne.mpr c14
    have c14b1 : (a0 != 3) = true := bne_iff_ne.mpr c14
    by_cases c18 : a0 = 9
    ·rw [if_pos c18] at H
     have c18b0 : (a0 == 9) = true := beq_iff_eq.mpr c18
     have c18b1 : (a0 != 9) = false := bne_eq_false_iff_eq.mpr c18
     clear c18
     by_cases c19 : a0 = 5
     ·rw [if_pos c19] at H
      have c19b0 : (a0 == 5) = true := beq_iff_eq.mpr c19
      have c19b1 : (a0 != 5) = false := bne_eq_false_iff_eq.mpr c19
      clear c19
      simp only [Option.some.injEq, Prod.mk.injEq] at H
      obtain ⟨rfl, rfl, rfl, rfl⟩ := H
      go_enter Tryz.func24, Tryz.ntmps24
      go_wp2
      refine bodyPost_ret (results_list (rs := [.tmp 2, .tmp 3, .tmp 4, .tmp 5]) rfl (by simp) (.tmp (.tmp (.tmp (.tmp .nil))))) rfl ?_
      exact ⟨by ((simp [*]; done)), by repeat ((exact Drawn0.refl _))⟩
     ·rw [if_neg c19] at H
      have c19b0 : (a0 == 5) = false := beq_eq_false_iff_ne.mpr c19
      have c19b1 : (a0 != 5) = true := bne_iff_ne.mpr c19
      by_cases c20 : a0 = 13
      ·rw [if_pos c20] at H
       have c20b0 : (a0 == 13) = true := beq_iff_eq.mpr c20
       have c20b1 : (a0 != 13) = false := bne_eq_false_iff_eq.mpr c20
       clear c20
       simp only [Option.some.injEq, Prod.mk.injEq] at H
       obtain ⟨rfl, rfl, rfl, rfl⟩ := H
       go_enter Tryz.func24, Tryz.ntmps24
       go_wp2
       refine bodyPost_ret (results_list (rs := [.tmp 2, .tmp 3, .tmp 4, .tmp 5]) rfl (by simp) (.tmp (.tmp (.tmp (.tmp .nil))))) rfl ?_
       exact ⟨by ((simp [*]; done)), by repeat ((exact Drawn0.refl _))⟩
      ·rw [if_neg c20] at H
       have c20b0 : (a0 == 13) = false := beq_eq_false_iff_ne.mpr c20
       have c20b1 : (a0 != 13) = true := bne_iff_ne.mpr c20
       by_cases c21 : a0 = 6
       ·rw [if_pos c21] at H
        have c21b0 : (a0 == 6) = true := beq_iff_eq.mpr c21
        have c21b1 : (a0 != 6) = false := bne_eq_false_iff_eq.mpr c21
        clear c21
        simp only [Option.some.injEq, Prod.mk.injEq] at H
        obtain ⟨rfl, rfl, rfl, rfl⟩ := H
        go_enter Tryz.func24, Tryz.ntmps24
        go_wp2
        refine bodyPost_ret (results_list (rs := [.tmp 2, .tmp 3, .tmp 4, .tmp 5]) rfl (by simp) (.tmp (.tmp (.tmp (.tmp .nil))))) rfl ?_
        exact ⟨by ((simp [*]; done)), by repeat ((exact Drawn0.refl _))⟩
       ·rw [if_neg c21] at H
        have c21b0 : (a0 == 6) = false := beq_eq_false_iff_ne.mpr c21
        have c21b1 : (a0 != 6) = true := bne_iff_ne.mpr c21
        simp only [Option.some.injEq, Prod.mk.injEq] at H
        obtain ⟨rfl, rfl, rfl, rfl⟩ := H
        go_enter Tryz.func24, Tryz.ntmps24
        go_wp2
        refine bodyPost_ret (results_list (rs := [.tmp 2, .tmp 3, .tmp 4, .tmp 5]) rfl (by simp) (.tmp (.tmp (.tmp (.tmp .nil))))) rfl ?_
        exact ⟨by ((simp [*]; done)), by repeat ((exact Drawn0.refl _))⟩
    ·rw [if_neg c18] at H
     have c18b0 : (a0 == 9) = false := beq_eq_false_iff_ne.mpr c18
     have c18b1 : (a0 != 9) = true := bne_iff_ne.mpr c18
     by_cases c22 : a0 = 5
     ·rw [if_pos c22] at H
      have c22b0 : (a0 == 5) = true := beq_iff_eq.mpr c22
      have c22b1 : (a0 != 5) = false := bne_eq_false_iff_eq.mpr c22
      clear c22
      simp only [Option.some.injEq, Prod.mk.injEq] at H
      obtain ⟨rfl, rfl, rfl, rfl⟩ := H
      go_enter Tryz.func24, Tryz.ntmps24
      go_wp2
      refine bodyPost_ret (results_list (rs := [.tmp 2, .tmp 3, .tmp 4, .tmp 5]) rfl (by simp) (.tmp (.tmp (.tmp (.tmp .nil))))) rfl ?_
      exact ⟨by ((simp [*]; done)), by repeat ((exact Drawn0.refl _))⟩
     ·rw [if_neg c22] at H
      have c22b0 : (a0 == 5) = false := beq_eq_false_iff_ne.mpr c22
      have c22b1 : (a0 != 5) = true := bne_iff_ne.mpr c22
      by_cases c23 : a0 = 13
      ·rw [if_pos c23] at H
       have c23b0 : (a0 == 13) = true := beq_iff_eq.mpr c23
       have c23b1 : (a0 != 13) = false := bne_eq_false_iff_eq.mpr c23
       clear c23
       simp only [Option.some.injEq, Prod.mk.injEq] at H
       obtain ⟨rfl, rfl, rfl, rfl⟩ := H
       go_enter Tryz.func24, Tryz.ntmps24
       go_wp2
       refine bodyPost_ret (results_list (rs := [.tmp 2, .tmp 3, .tmp 4, .tmp 5]) rfl (by simp) (.tmp (.tmp (.tmp (.tmp .nil))))) rfl ?_
       exact ⟨by ((simp [*]; done)), by repeat ((exact Drawn0.refl _))⟩
      ·rw [if_neg c23] at H
       have c23b0 : (a0 == 13) = false := beq_eq_false_iff_ne.mpr c23
       have c23b1 : (a0 != 13) = true := bne_iff_ne.mpr c23
       by_cases c24 : a0 = 6
       ·rw [if_pos c24] at H
        have c24b0 : (a0 == 6) = true := beq_iff_eq.mpr c24
        have c24b1 : (a0 != 6) = false := bne_eq_false_iff_eq.mpr c24
        clear c24
        simp only [Option.some.injEq, Prod.mk.injEq] at H
        obtain ⟨rfl, rfl, rfl, rfl⟩ := H
        go_enter Tryz.func24, Tryz.ntmps24
        go_wp2
        refine bodyPost_ret (results_list (rs := [.tmp 2, .tmp 3, .tmp 4, .tmp 5]) rfl (by simp) (.tmp (.tmp (.tmp (.tmp .nil))))) rfl ?_
        exact ⟨by ((simp [*]; done)), by repeat ((exact Drawn0.refl _))⟩
       ·rw [if_neg c24] at H
        have c24b0 : (a0 == 6) = false := beq_eq_false_iff_ne.mpr c24
        have c24b1 : (a0 != 6) = true := bne_iff_ne.mpr c24
        simp only [Option.some.injEq, Prod.mk.injEq] at H
        obtain ⟨rfl, rfl, rfl, rfl⟩ := H
        go_enter Tryz.func24, Tryz.ntmps24
        go_wp2
        refine bodyPost_ret (results_list (rs := [.tmp 2, .tmp 3, .tmp 4, .tmp 5]) rfl (by simp) (.tmp (.tmp (.tmp (.tmp .nil))))) rfl ?_
        exact ⟨by ((simp [*]; done)), by repeat ((exact Drawn0.refl _))⟩

end Go.Proofs.YtofdpgcnconibaaGreatDoor.PA
-- WRITTEN BY a program of this session (pp.sh)
namespace Go.Proofs.YtofdpgcnconibaaGreatDoor.PA
open Go.RowKit Go.Proofs.YtofdpgcnconibaaGreatDoorW.PrintWords Go.Proofs.YtofdpgcnconibaaGreatDoorW.PrintLast Go.Proofs.YtofdpgcnconibaaGreatDoorW.PrintMore Go.Proofs.YtofdpgcnconibaaGreatDoor.Plain
attribute [local go_sem] max2_int min2_int max_two min_two max_three min_three max_four min_four binOp_leq_s binOp_gtr_s binOp_geq_s lit_byte   -- for this text's walks alone
set_option linter.unusedVariables false
set_option linter.unusedSimpArgs false

/-! ### coppiceref12_Name: function 43 -/
mutual
def coppiceref12_Name.j0 : Nat → ByteArray → Bool → Option (Bool)
 | 0, _, _ => none
 | k + 1, x0, x18 => if x18 = true then (some false) else (coppiceref12_Name.l0 k x0 0)
def coppiceref12_Name.l0 : Nat → ByteArray → Int → Option (Bool)
 | 0, _, _ => none
 | k + 1, x0, x3 => if x3 < (x0.size : Int) then (if 0 ≤ x3 then (if (bt x0 x3) = 47 then (some false) else (if (bt x0 x3) = 0 then (some false) else (coppiceref12_Name.l0 k x0 (wrap64 (x3 + 1))))) else (none)) else (some true)
end
def coppiceref12_Name.f (k : Nat) (a0 : ByteArray) : Option (Bool) := if a0.toList = ([] : List UInt8) then (coppiceref12_Name.j0 k a0 true) else (if (a0.size : Int) > 255 then (coppiceref12_Name.j0 k a0 true) else (if a0.toList = ([46] : List UInt8) then (coppiceref12_Name.j0 k a0 true) else (coppiceref12_Name.j0 k a0 (a0.toList == ([46, 46] : List UInt8)))))
set_option maxHeartbeats 8000000 in
set_option maxRecDepth 100000 in
theorem coppiceref12_Name.calls (k : Nat) (a0 : ByteArray) (r : Bool) (w : World) (h : coppiceref12_Name.f k a0 = some r) :
  Calls Tryz.prog 43 #[.string a0] w fun e w' => e = .returned (.bool r) ∧ Drawn0 w w' := by
 have H : (if a0.toList = ([] : List UInt8) then (coppiceref12_Name.j0 k a0 true) else (if (a0.size : Int) > 255 then (coppiceref12_Name.j0 k a0 true) else (if a0.toList = ([46] : List UInt8) then (coppiceref12_Name.j0 k a0 true) else (coppiceref12_Name.j0 k a0 (a0.toList == ([46, 46] : List UInt8)))))) = some r := h
 clear h
 have HC2 := Aside0.mk H
 clear H
 go_enter Tryz.func43, Tryz.ntmps43
 go_upto_region 1 with (fail)
 go_cut [18] (fun ql wc => ∃ (kq : Nat) (qb : Bool), ql = .bool qb ∧ Aside0 (coppiceref12_Name.j0 kq a0 qb = some r) ∧ Aside0 (kq ≤ k) ∧ Drawn0 w wc)
 case first =>
  have H := HC2.out
  clear HC2
  by_cases c3 : a0.toList = ([] : List UInt8)
  ·rw [if_pos c3] at H
   have c3b0 : (a0.toList == ([] : List UInt8)) = true := beq_iff_eq.mpr c3
   have c3b1 : (a0.toList != ([] : List UInt8)) = false := bne_eq_false_iff_eq.mpr c3
   clear c3
   ((skip))
   have H' := Aside0.mk H
   clear H
   go_wp2
   go_meet
   case rel => exact ⟨_, (true), (by (rfl)), H', ⟨by (omega)⟩, by repeat ((exact Drawn0.refl _))⟩
  ·rw [if_neg c3] at H
   have c3b0 : (a0.toList == ([] : List UInt8)) = false := beq_eq_false_iff_ne.mpr c3
   have c3b1 : (a0.toList != ([] : List UInt8)) = true := bne_iff_ne.mpr c3
   ((skip))
   by_cases c4 : (a0.size : Int) > 255
   ·rw [if_pos c4] at H
    have c4b0 : decide (255 < (a0.size : Int)) = true := decide_eq_true c4
    have c4b1 : decide (255 < a0.size) = true := decide_eq_true (by omega)
    clear c4
    have H' := Aside0.mk H
    clear H
    go_wp2
    go_meet
    case rel => exact ⟨_, (true), (by (rfl)), H', ⟨by (omega)⟩, by repeat ((exact Drawn0.refl _))⟩
   ·rw [if_neg c4] at H
    have c4b0 : decide (255 < (a0.size : Int)) = false := decide_eq_false c4
    have c4b1 : decide (255 < a0.size) = false := decide_eq_false (by omega)
    clear c4
    by_cases c5 : a0.toList = ([46] : List UInt8)
    ·rw [if_pos c5] at H
     have c5b0 : (a0.toList == ([46] : List UInt8)) = true := beq_iff_eq.mpr c5
     have c5b1 : (a0.toList != ([46] : List UInt8)) = false := bne_eq_false_iff_eq.mpr c5
     clear c5
     have H' := Aside0.mk H
     clear H
     go_wp2
     go_meet
     case rel => exact ⟨_, (true), (by (rfl)), H', ⟨by (omega)⟩, by repeat ((exact Drawn0.refl _))⟩
    ·rw [if_neg c5] at H
     have c5b0 : (a0.toList == ([46] : List UInt8)) = false := beq_eq_false_iff_ne.mpr c5
     have c5b1 : (a0.toList != ([46] : List UInt8)) = true := bne_iff_ne.mpr c5
     have H' := Aside0.mk H
     clear H
     go_wp2
     go_meet
     case rel => exact ⟨_, ((a0.toList == ([46, 46] : List UInt8))), (by (rfl)), H', ⟨by (omega)⟩, by repeat ((exact Drawn0.refl _))⟩
 case rest =>
  clear HC2
  try clear p2
  try clear c3
  try clear c3b0
  try clear c3b1
  try clear c4
  try clear c4b0
  try clear c4b1
  try clear c5
  try clear c5b0
  try clear c5b1
  obtain ⟨kq, qb, rfl, HA, HJ1, ⟨mc1, rfl⟩⟩ := hcut
  cases kq with
  | zero => exact absurd HA.out (by simp [coppiceref12_Name.j0])
  | succ kj1 =>
   have H := HA.out
   clear HA
   simp only [coppiceref12_Name.j0] at H
   by_cases c6 : qb = true
   ·subst c6
    have H1 : (some false) = some r := by rw [if_pos rfl] at H; exact H
    clear H
    have H := H1
    clear H1
    obtain rfl := Option.some.inj H
    go_wp2
    go_ret
    exact ⟨by (rfl), by repeat (first | exact Drawn0.refl _ | apply Drawn0.step)⟩
   ·replace c6 := Bool.eq_false_iff.mpr c6
    subst c6
    have H1 : (coppiceref12_Name.l0 kj1 a0 0) = some r := by rw [if_neg (show ¬ (false = true) by decide)] at H; exact H
    clear H
    have H := H1
    clear H1
    have H' := Aside0.mk H
    clear H
    go_wp2
    go_loopg [3] kj1 (fun kq v3 w' => ∃ (x3_2 : Int), v3 = .int .i64 x3_2 ∧ Aside0 (coppiceref12_Name.l0 kq a0 x3_2 = some r) ∧ Aside0 (kq ≤ kj1) ∧ Drawn0 w w')
    case atStart => exact ⟨(0), (by (rfl)), H', ⟨Nat.le_refl _⟩, by repeat (first | exact Drawn0.refl _ | apply Drawn0.step)⟩
    case round =>
     clear H'
     try clear c1
     try clear p2
     try clear c3
     try clear c3b0
     try clear c3b1
     try clear c4
     try clear c4b0
     try clear c4b1
     try clear c5
     try clear c5b0
     try clear c5b1
     try clear c6
     try clear p2
     obtain ⟨x3_2, rfl, HA, HK2, ⟨m2, rfl⟩⟩ := hrel
     cases gk with
     | zero => exact absurd HA.out (by simp [coppiceref12_Name.l0])
     | succ k2 =>
      have H := HA.out
      clear HA
      simp only [coppiceref12_Name.l0] at H
      by_cases c7 : x3_2 < (a0.size : Int)
      ·rw [if_pos c7] at H
       have c7b0 : decide (x3_2 < (a0.size : Int)) = true := decide_eq_true c7
       clear c7
       by_cases c8 : 0 ≤ x3_2
       ·rw [if_pos c8] at H
        have c8b0 : decide (0 ≤ x3_2) = true := decide_eq_true c8
        clear c8
        by_cases c10 : (bt a0 x3_2) = 47
        ·rw [if_pos c10] at H
         have c10b0 : ((bt a0 x3_2) == 47) = true := beq_iff_eq.mpr c10
         have c10b1 : ((bt a0 x3_2) != 47) = false := bne_eq_false_iff_eq.mpr c10
         clear c10
         obtain rfl := Option.some.inj H
         have p9 : 0 ≤ (x3_2 : Int) := of_decide_eq_true (by ((with_reducible assumption)))
         have q9 : x3_2 < (a0.size : Int) := of_decide_eq_true (by ((with_reducible assumption)))
         have hx9 := bt_at a0 x3_2
         replace p9 := eq_true p9
         replace q9 := eq_true q9
         go_wp2
         go_ret
         exact ⟨by (rfl), by repeat (first | exact Drawn0.refl _ | apply Drawn0.step)⟩
        ·rw [if_neg c10] at H
         have c10b0 : ((bt a0 x3_2) == 47) = false := beq_eq_false_iff_ne.mpr c10
         have c10b1 : ((bt a0 x3_2) != 47) = true := bne_iff_ne.mpr c10
         by_cases c12 : (bt a0 x3_2) = 0
         ·rw [if_pos c12] at H
          have c12b0 : ((bt a0 x3_2) == 0) = true := beq_iff_eq.mpr c12
          have c12b1 : ((bt a0 x3_2) != 0) = false := bne_eq_false_iff_eq.mpr c12
          clear c12
          obtain rfl := Option.some.inj H
          have p9 : 0 ≤ (x3_2 : Int) := of_decide_eq_true (by ((with_reducible assumption)))
          have q9 : x3_2 < (a0.size : Int) := of_decide_eq_true (by ((with_reducible assumption)))
          have hx9 := bt_at a0 x3_2
          replace p9 := eq_true p9
          replace q9 := eq_true q9
          have p11 : 0 ≤ (x3_2 : Int) := of_decide_eq_true (by ((with_reducible assumption)))
          have q11 : x3_2 < (a0.size : Int) := of_decide_eq_true (by ((with_reducible assumption)))
          have hx11 := bt_at a0 x3_2
          replace p11 := eq_true p11
          replace q11 := eq_true q11
          go_wp2
          go_ret
          exact ⟨by (rfl), by repeat (first | exact Drawn0.refl _ | apply Drawn0.step)⟩
         ·rw [if_neg c12] at H
          have c12b0 : ((bt a0 x3_2) == 0) = false := beq_eq_false_iff_ne.mpr c12
          have c12b1 : ((bt a0 x3_2) != 0) = true := bne_iff_ne.mpr c12
          have H' := Aside0.mk H
          clear H
          have p9 : 0 ≤ (x3_2 : Int) := of_decide_eq_true (by ((with_reducible assumption)))
          have q9 : x3_2 < (a0.size : Int) := of_decide_eq_true (by ((with_reducible assumption)))
          have hx9 := bt_at a0 x3_2
          replace p9 := eq_true p9
          replace q9 := eq_true q9
          have p11 : 0 ≤ (x3_2 : Int) := of_decide_eq_true (by ((with_reducible assumption)))
          have q11 : x3_2 < (a0.size : Int) := of_decide_eq_true (by ((with_reducible assumption)))
          have hx11 := bt_at a0 x3_2
          replace p11 := eq_true p11
          replace q11 := eq_true q11
          go_wp2
          go_roundg k2
          case measure => have := HJ1.out; have := HK2.out; omega
          case rel => exact ⟨(wrap64 (x3_2 + 1)), (by (rfl)), H', ⟨by have := HJ1.out; have := HK2.out; omega⟩, by repeat (first | exact Drawn0.refl _ | apply Drawn0.step)⟩
       ·rw [if_neg c8] at H
        exact absurd H (by simp)
      ·rw [if_neg c7] at H
       have c7b0 : decide (x3_2 < (a0.size : Int)) = false := decide_eq_false c7
       clear c7
       obtain rfl := Option.some.inj H
       go_wp2
       go_ret
       exact ⟨by (rfl), by repeat (first | exact Drawn0.refl _ | apply Drawn0.step)⟩

/-! ### coppiceref12_cut: function 87 -/
def coppiceref12_cut.l0 : Nat → ByteArray → List ByteArray → ByteArray → Int → Option (List ByteArray)
 | 0, _, _, _, _ => none
 | k + 1, x0, x3, x4, x5 => if x5 < (x0.size : Int) then (if 0 ≤ x5 then (if (bt x0 x5) = 47 then (if x3.length < 8796093022208 then (coppiceref12_cut.l0 k x0 (x3 ++ [x4]) (⟨#[]⟩ : ByteArray) (wrap64 (x5 + 1))) else (none)) else (if x5 ≤ (wrap64 (x5 + 1)) then (if (wrap64 (x5 + 1)) ≤ (x0.size : Int) then (if x4.size + (x0.extract (x5 : Int).toNat ((wrap64 (x5 + 1)) : Int).toNat).size ≤ 9223372036854775807 then (coppiceref12_cut.l0 k x0 x3 (x4 ++ (x0.extract (x5 : Int).toNat ((wrap64 (x5 + 1)) : Int).toNat)) (wrap64 (x5 + 1))) else (none)) else (none)) else (none))) else (none)) else (if x3.length < 8796093022208 then (some (x3 ++ [x4])) else (none))
def coppiceref12_cut.f (k : Nat) (a0 : ByteArray) : Option (List ByteArray) := coppiceref12_cut.l0 k a0 ([] : List ByteArray) (⟨#[]⟩ : ByteArray) 0
set_option maxHeartbeats 8000000 in
set_option maxRecDepth 100000 in
theorem coppiceref12_cut.calls (k : Nat) (a0 : ByteArray) (r : List ByteArray) (w : World) (h : coppiceref12_cut.f k a0 = some r) :
  Calls Tryz.prog 87 #[.string a0] w fun e w' => ∃ v0_ : Value, e = .returned (v0_) ∧ Kd.R Kd.string 9 w' w.heap.size (fun _ => True) v0_ r ∧ Below w.heap.size w w' := by
 have HB := Aside0.mk (Below.refl w.heap.size w)
 have H : (coppiceref12_cut.l0 k a0 ([] : List ByteArray) (⟨#[]⟩ : ByteArray) 0) = some r := h
 clear h
 have H' := Aside0.mk H
 clear H
 go_enter Tryz.func87, Tryz.ntmps87
 go_wp2
 go_loopg [3, 4, 5] k (fun kq v3 v4 v5 w' => ∃ (x3_1 : List ByteArray) (x4_1 : ByteArray) (x5_1 : Int), v4 = .string x4_1 ∧ v5 = .int .i64 x5_1 ∧ Aside0 (coppiceref12_cut.l0 kq a0 x3_1 x4_1 x5_1 = some r) ∧ Aside0 (kq ≤ k) ∧ Aside0 (Kd.R Kd.string 9 w' w.heap.size (fun _ => True) v3 x3_1) ∧ Aside0 (Below w.heap.size w w'))
 case atStart => exact ⟨(([] : List ByteArray)), ((⟨#[]⟩ : ByteArray)), (0), (by (rfl)), (by (rfl)), H', ⟨Nat.le_refl _⟩, ⟨by (exact Kd.R_nil _ _ _ _ _)⟩, ⟨by repeat (((with_reducible (exact HB.out))))⟩⟩
 case round =>
  clear H'
  obtain ⟨x3_1, x4_1, x5_1, rfl, rfl, HA, HK1, HO_3, HB⟩ := hrel
  cases gk with
  | zero => exact absurd HA.out (by simp [coppiceref12_cut.l0])
  | succ k1 =>
   have H := HA.out
   clear HA
   simp only [coppiceref12_cut.l0] at H
   by_cases c2 : x5_1 < (a0.size : Int)
   ·rw [if_pos c2] at H
    have c2b0 : decide (x5_1 < (a0.size : Int)) = true := decide_eq_true c2
    clear c2
    by_cases c3 : 0 ≤ x5_1
    ·rw [if_pos c3] at H
     have c3b0 : decide (0 ≤ x5_1) = true := decide_eq_true c3
     clear c3
     by_cases c5 : (bt a0 x5_1) = 47
     ·rw [if_pos c5] at H
      have c5b0 : ((bt a0 x5_1) == 47) = true := beq_iff_eq.mpr c5
      have c5b1 : ((bt a0 x5_1) != 47) = false := bne_eq_false_iff_eq.mpr c5
      clear c5
      by_cases c6 : x3_1.length < 8796093022208
      ·rw [if_pos c6] at H
       have LMc6 := Aside0.mk c6
       clear c6
       obtain ⟨qe, qd⟩ : ∃ y_ : List ByteArray, y_ = (x3_1 ++ [x4_1]) := ⟨_, rfl⟩
       replace H : (coppiceref12_cut.l0 k1 a0 qe (⟨#[]⟩ : ByteArray) (wrap64 (x5_1 + 1))) = some r := by ((rw [qd]; with_reducible exact H))
       have qf := Aside0.mk qd
       clear qd
       have H' := Aside0.mk H
       clear H
       have p4 : 0 ≤ (x5_1 : Int) := of_decide_eq_true (by ((with_reducible assumption)))
       have q4 : x5_1 < (a0.size : Int) := of_decide_eq_true (by ((with_reducible assumption)))
       have hx4 := bt_at a0 x5_1
       replace p4 := eq_true p4
       replace q4 := eq_true q4
       go_wp2_with (first | ((with_reducible refine gate_builtin (b := .append) (xs := #[.tmp 16, .tmp 18]) rfl ?_); at_builtin; refine Kd.R_append Kd.string (w0 := w) w.heap.size rfl (.tmp 16) (.tmp 18) 119 9 (.string ⟨#[]⟩) 16 rfl Tryz.underlying119 info9 rfl (by decide) (by omega) u3 x3_1 x4_1 [.string x4_1] (fun _ => True) (fun _ => False) rfl rfl ?aP (fun _ hk => hk.elim) ?aF ?aO ?aB ?aS ?aL ?_; (case aP => exact rfl); (case aB => exact (by repeat (((with_reducible (exact HB.out)))))); (case aF => exact (fun _ _ => trivial)); (case aO => exact (by exact HO_3.out)); (case aS => exact (below_size (by repeat (((with_reducible (exact HB.out))))))); (case aL => have := LMc6.out; omega); intro qm w7 ho hb hg hat; rw [← qf.out] at ho; have n0_ := Aside0.mk (hb); have n1_ := Aside0.mk (ho); clear HB; clear HO_3; have HB := n0_; have qg := n1_; clear n0_ n1_; clear ho hb hg hat))
       go_roundg k1
       case measure => have := HK1.out; omega
       case rel => exact ⟨(qe), ((⟨#[]⟩ : ByteArray)), (wrap64 (x5_1 + 1)), (by (rfl)), (by (rfl)), H', ⟨by have := HK1.out; omega⟩, ⟨by exact qg.out⟩, ⟨by repeat (((with_reducible (exact HB.out))))⟩⟩
      ·rw [if_neg c6] at H
       exact absurd H (by simp)
     ·rw [if_neg c5] at H
      have c5b0 : ((bt a0 x5_1) == 47) = false := beq_eq_false_iff_ne.mpr c5
      have c5b1 : ((bt a0 x5_1) != 47) = true := bne_iff_ne.mpr c5
      have c8b0 := eq_true (of_decide_eq_true (by ((with_reducible assumption))) : 0 ≤ x5_1)
      by_cases c9 : x5_1 ≤ (wrap64 (x5_1 + 1))
      ·rw [if_pos c9] at H
       have c9b0 := eq_true c9
       have c9b1 : decide (x5_1 ≤ (wrap64 (x5_1 + 1))) = true := decide_eq_true c9
       by_cases c10 : (wrap64 (x5_1 + 1)) ≤ (a0.size : Int)
       ·rw [if_pos c10] at H
        have c10b0 := eq_true c10
        have c10b1 : decide ((wrap64 (x5_1 + 1)) ≤ (a0.size : Int)) = true := decide_eq_true c10
        by_cases c11 : x4_1.size + (a0.extract (x5_1 : Int).toNat ((wrap64 (x5_1 + 1)) : Int).toNat).size ≤ 9223372036854775807
        ·rw [if_pos c11] at H
         have c11b0 := eq_true c11
         have c11b1 : decide (x4_1.size + (a0.extract (x5_1 : Int).toNat ((wrap64 (x5_1 + 1)) : Int).toNat).size ≤ 9223372036854775807) = true := decide_eq_true c11
         try have c11b2 : (9223372036854775807 < x4_1.size + (a0.extract (x5_1 : Int).toNat ((wrap64 (x5_1 + 1)) : Int).toNat).size) = False := eq_false (Nat.not_lt.2 c11)
         have H' := Aside0.mk H
         clear H
         have p4 : 0 ≤ (x5_1 : Int) := of_decide_eq_true (by ((with_reducible assumption)))
         have q4 : x5_1 < (a0.size : Int) := of_decide_eq_true (by ((with_reducible assumption)))
         have hx4 := bt_at a0 x5_1
         replace p4 := eq_true p4
         replace q4 := eq_true q4
         go_wp2
         go_roundg k1
         case measure => have := HK1.out; omega
         case rel => exact ⟨(x3_1), (x4_1 ++ (a0.extract (x5_1 : Int).toNat ((wrap64 (x5_1 + 1)) : Int).toNat)), (wrap64 (x5_1 + 1)), (by (rfl)), (by (rfl)), H', ⟨by have := HK1.out; omega⟩, ⟨by exact HO_3.out⟩, ⟨by repeat (((with_reducible (exact HB.out))))⟩⟩
        ·rw [if_neg c11] at H
         exact absurd H (by simp)
       ·rw [if_neg c10] at H
        exact absurd H (by simp)
      ·rw [if_neg c9] at H
       exact absurd H (by simp)
    ·rw [if_neg c3] at H
     exact absurd H (by simp)
   ·rw [if_neg c2] at H
    have c2b0 : decide (x5_1 < (a0.size : Int)) = false := decide_eq_false c2
    clear c2
    by_cases c12 : x3_1.length < 8796093022208
    ·rw [if_pos c12] at H
     have qj := Aside0.mk c12
     clear c12
     obtain ⟨qk, qc⟩ : ∃ y_ : List ByteArray, y_ = (x3_1 ++ [x4_1]) := ⟨_, rfl⟩
     replace H : (some qk) = some r := by ((rw [qc]; with_reducible exact H))
     have qh := Aside0.mk qc
     clear qc
     obtain rfl := Option.some.inj H
     go_wp2_with (first | ((with_reducible refine gate_builtin (b := .append) (xs := #[.tmp 27, .tmp 29]) rfl ?_); at_builtin; refine Kd.R_append Kd.string (w0 := w) w.heap.size rfl (.tmp 27) (.tmp 29) 119 9 (.string ⟨#[]⟩) 16 rfl Tryz.underlying119 info9 rfl (by decide) (by omega) u3 x3_1 x4_1 [.string x4_1] (fun _ => True) (fun _ => False) rfl rfl ?aP (fun _ hk => hk.elim) ?aF ?aO ?aB ?aS ?aL ?_; (case aP => exact rfl); (case aB => exact (by repeat (((with_reducible (exact HB.out)))))); (case aF => exact (fun _ _ => trivial)); (case aO => exact (by exact HO_3.out)); (case aS => exact (below_size (by repeat (((with_reducible (exact HB.out))))))); (case aL => have := qj.out; omega); intro qn w13 ho hb hg hat; rw [← qh.out] at ho; have n0_ := Aside0.mk (hb); have n1_ := Aside0.mk (ho); clear HB; clear HO_3; have HB := n0_; have qi := n1_; clear n0_ n1_; clear ho hb hg hat))
     go_ret
     exact ⟨_, by (rfl), by exact qi.out, by repeat (((with_reducible (exact HB.out))))⟩
    ·rw [if_neg c12] at H
     exact absurd H (by simp)

end Go.Proofs.YtofdpgcnconibaaGreatDoor.PA
-- WRITTEN BY a program of this session (pp.sh)
namespace Go.Proofs.YtofdpgcnconibaaGreatDoor.PA
open Go.RowKit Go.Proofs.YtofdpgcnconibaaGreatDoorW.PrintWords Go.Proofs.YtofdpgcnconibaaGreatDoorW.PrintLast Go.Proofs.YtofdpgcnconibaaGreatDoorW.PrintMore Go.Proofs.YtofdpgcnconibaaGreatDoor.Plain
attribute [local go_sem] max2_int min2_int max_two min_two max_three min_three max_four min_four binOp_leq_s binOp_gtr_s binOp_geq_s lit_byte   -- for this text's walks alone
set_option linter.unusedVariables false
set_option linter.unusedSimpArgs false

/-! ### coppiceref12_OrphanOf: function 88 -/
mutual
def coppiceref12_OrphanOf.j0 : Nat → ByteArray → Bool → Option (Int × Bool)
 | 0, _, _ => none
 | k + 1, x0, x23 => if x23 = true then (some (0, false)) else (coppiceref12_OrphanOf.l0 k x0 0 1)
def coppiceref12_OrphanOf.l0 : Nat → ByteArray → Int → Int → Option (Int × Bool)
 | 0, _, _, _ => none
 | k + 1, x0, x4, x5 => if x5 < (x0.size : Int) then (if 0 ≤ x5 then (if (bt x0 x5) < 48 then (some (0, false)) else (if (bt x0 x5) > 57 then (some (0, false)) else (coppiceref12_OrphanOf.l0 k x0 (wrap64 ((wrap64 (10 * x4)) + (((bt x0 x5) - 48) % 256))) (wrap64 (x5 + 1))))) else (none)) else (if x4 < 1 then (some (0, false)) else (if x4 > 1099511627776 then (some (0, false)) else (some (x4, true))))
end
def coppiceref12_OrphanOf.f (k : Nat) (a0 : ByteArray) : Option (Int × Bool) := if (a0.size : Int) < 2 then (coppiceref12_OrphanOf.j0 k a0 true) else (if (a0.size : Int) > 14 then (coppiceref12_OrphanOf.j0 k a0 true) else (if 0 < (a0.size : Int) then (if (bt a0 0) = 0 then (if 1 < (a0.size : Int) then (coppiceref12_OrphanOf.j0 k a0 ((bt a0 1) == 48)) else (none)) else (coppiceref12_OrphanOf.j0 k a0 true)) else (none)))
set_option maxHeartbeats 8000000 in
set_option maxRecDepth 100000 in
theorem coppiceref12_OrphanOf.calls (k : Nat) (a0 : ByteArray) (r1 : Int) (r2 : Bool) (w : World) (h : coppiceref12_OrphanOf.f k a0 = some (r1, r2)) :
  Calls Tryz.prog 88 #[.string a0] w fun e w' => e = .returned (.tuple #[.int .i64 r1, .bool r2]) ∧ Drawn0 w w' := by
 have H : (if (a0.size : Int) < 2 then (coppiceref12_OrphanOf.j0 k a0 true) else (if (a0.size : Int) > 14 then (coppiceref12_OrphanOf.j0 k a0 true) else (if 0 < (a0.size : Int) then (if (bt a0 0) = 0 then (if 1 < (a0.size : Int) then (coppiceref12_OrphanOf.j0 k a0 ((bt a0 1) == 48)) else (none)) else (coppiceref12_OrphanOf.j0 k a0 true)) else (none)))) = some (r1, r2) := h
 clear h
 have HC2 := Aside0.mk H
 clear H
 go_enter Tryz.func88, Tryz.ntmps88
 go_upto_region 1 with (fail)
 go_cut [23] (fun qc wc => ∃ (kq : Nat) (qb : Bool), qc = .bool qb ∧ Aside0 (coppiceref12_OrphanOf.j0 kq a0 qb = some (r1, r2)) ∧ Aside0 (kq ≤ k) ∧ Drawn0 w wc)
 case first =>
  have H := HC2.out
  clear HC2
  by_cases c3 : (a0.size : Int) < 2
  ·rw [if_pos c3] at H
   have c3b0 : decide ((a0.size : Int) < 2) = true := decide_eq_true c3
   have c3b1 : decide (a0.size < 2) = true := decide_eq_true (by omega)
   clear c3
   ((skip))
   have H' := Aside0.mk H
   clear H
   go_wp2
   go_meet
   case rel => exact ⟨_, (true), (by (rfl)), H', ⟨by (omega)⟩, by repeat ((exact Drawn0.refl _))⟩
  ·rw [if_neg c3] at H
   have c3b0 : decide ((a0.size : Int) < 2) = false := decide_eq_false c3
   have c3b1 : decide (a0.size < 2) = false := decide_eq_false (by omega)
   clear c3
   ((skip))
   by_cases c4 : (a0.size : Int) > 14
   ·rw [if_pos c4] at H
    have c4b0 : decide (14 < (a0.size : Int)) = true := decide_eq_true c4
    have c4b1 : decide (14 < a0.size) = true := decide_eq_true (by omega)
    clear c4
    have H' := Aside0.mk H
    clear H
    go_wp2
    go_meet
    case rel => exact ⟨_, (true), (by (rfl)), H', ⟨by (omega)⟩, by repeat ((exact Drawn0.refl _))⟩
   ·rw [if_neg c4] at H
    have c4b0 : decide (14 < (a0.size : Int)) = false := decide_eq_false c4
    have c4b1 : decide (14 < a0.size) = false := decide_eq_false (by omega)
    clear c4
    by_cases c5 : 0 < (a0.size : Int)
    ·rw [if_pos c5] at H
     have c5b0 : decide (0 < (a0.size : Int)) = true := decide_eq_true c5
     have c5b1 : decide (0 < a0.size) = true := decide_eq_true (by omega)
     clear c5
     by_cases c7 : (bt a0 0) = 0
     ·rw [if_pos c7] at H
      have c7b0 : ((bt a0 0) == 0) = true := beq_iff_eq.mpr c7
      have c7b1 : ((bt a0 0) != 0) = false := bne_eq_false_iff_eq.mpr c7
      clear c7
      by_cases c8 : 1 < (a0.size : Int)
      ·rw [if_pos c8] at H
       have c8b0 : decide (1 < (a0.size : Int)) = true := decide_eq_true c8
       have c8b1 : decide (1 < a0.size) = true := decide_eq_true (by omega)
       clear c8
       have H' := Aside0.mk H
       clear H
       have p6 : 0 ≤ (0 : Int) := (by omega)
       have q6 : 0 < a0.size := (by have : (0 : Int) < (a0.size : Int) := of_decide_eq_true (by ((with_reducible assumption))); omega)
       have hx6 : ∀ h : 0 < a0.size, ((a0[0]'h).toNat : Int) = bt a0 0 := bt_at a0 0
       clear p6
       have qi6 : (0 < (a0.size : Int)) = True := eq_true (of_decide_eq_true (by ((with_reducible assumption))))
       replace q6 := eq_true q6
       have p9 : 0 ≤ (1 : Int) := (by omega)
       have q9 : 1 < a0.size := (by have : (1 : Int) < (a0.size : Int) := of_decide_eq_true (by ((with_reducible assumption))); omega)
       have hx9 : ∀ h : 1 < a0.size, ((a0[1]'h).toNat : Int) = bt a0 1 := bt_at a0 1
       clear p9
       have qi9 : (1 < (a0.size : Int)) = True := eq_true (of_decide_eq_true (by ((with_reducible assumption))))
       replace q9 := eq_true q9
       go_wp2
       go_meet
       case rel => exact ⟨_, (((bt a0 1) == 48)), (by (rfl)), H', ⟨by (omega)⟩, by repeat ((exact Drawn0.refl _))⟩
      ·rw [if_neg c8] at H
       exact absurd H (by simp)
     ·rw [if_neg c7] at H
      have c7b0 : ((bt a0 0) == 0) = false := beq_eq_false_iff_ne.mpr c7
      have c7b1 : ((bt a0 0) != 0) = true := bne_iff_ne.mpr c7
      have H' := Aside0.mk H
      clear H
      have p6 : 0 ≤ (0 : Int) := (by omega)
      have q6 : 0 < a0.size := (by have : (0 : Int) < (a0.size : Int) := of_decide_eq_true (by ((with_reducible assumption))); omega)
      have hx6 : ∀ h : 0 < a0.size, ((a0[0]'h).toNat : Int) = bt a0 0 := bt_at a0 0
      clear p6
      have qi6 : (0 < (a0.size : Int)) = True := eq_true (of_decide_eq_true (by ((with_reducible assumption))))
      replace q6 := eq_true q6
      go_wp2
      go_meet
      case rel => exact ⟨_, (true), (by (rfl)), H', ⟨by (omega)⟩, by repeat ((exact Drawn0.refl _))⟩
    ·rw [if_neg c5] at H
     exact absurd H (by simp)
 case rest =>
  clear HC2
  try clear p2
  try clear c3
  try clear c3b0
  try clear c3b1
  try clear c4
  try clear c4b0
  try clear c4b1
  try clear c5
  try clear c5b0
  try clear c5b1
  try clear p6
  try clear q6
  try clear hx6
  try clear qi6
  try clear c7
  try clear c7b0
  try clear c7b1
  try clear c8
  try clear c8b0
  try clear c8b1
  try clear p9
  try clear q9
  try clear hx9
  try clear qi9
  try clear p6
  try clear p9
  try clear q6
  try clear q9
  obtain ⟨kq, qb, rfl, HA, HJ1, ⟨mc1, rfl⟩⟩ := hcut
  cases kq with
  | zero => exact absurd HA.out (by simp [coppiceref12_OrphanOf.j0])
  | succ kj1 =>
   have H := HA.out
   clear HA
   simp only [coppiceref12_OrphanOf.j0] at H
   by_cases c10 : qb = true
   ·subst c10
    have H1 : (some (0, false)) = some (r1, r2) := by rw [if_pos rfl] at H; exact H
    clear H
    have H := H1
    clear H1
    simp only [Option.some.injEq, Prod.mk.injEq] at H
    obtain ⟨rfl, rfl⟩ := H
    go_wp2
    go_ret2
    exact ⟨by (rfl), by repeat (first | exact Drawn0.refl _ | apply Drawn0.step)⟩
   ·replace c10 := Bool.eq_false_iff.mpr c10
    subst c10
    have H1 : (coppiceref12_OrphanOf.l0 kj1 a0 0 1) = some (r1, r2) := by rw [if_neg (show ¬ (false = true) by decide)] at H; exact H
    clear H
    have H := H1
    clear H1
    have H' := Aside0.mk H
    clear H
    go_wp2
    go_loopg [4, 5] kj1 (fun kq v4 v5 w' => ∃ (x4_2 : Int) (x5_2 : Int), v4 = .int .i64 x4_2 ∧ v5 = .int .i64 x5_2 ∧ Aside0 (coppiceref12_OrphanOf.l0 kq a0 x4_2 x5_2 = some (r1, r2)) ∧ Aside0 (kq ≤ kj1) ∧ Drawn0 w w')
    case atStart => exact ⟨(0), (1), (by (rfl)), (by (rfl)), H', ⟨Nat.le_refl _⟩, by repeat (first | exact Drawn0.refl _ | apply Drawn0.step)⟩
    case round =>
     clear H'
     try clear c1
     try clear p2
     try clear c3
     try clear c3b0
     try clear c3b1
     try clear c4
     try clear c4b0
     try clear c4b1
     try clear c5
     try clear c5b0
     try clear c5b1
     try clear p6
     try clear q6
     try clear hx6
     try clear qi6
     try clear c7
     try clear c7b0
     try clear c7b1
     try clear c8
     try clear c8b0
     try clear c8b1
     try clear p9
     try clear q9
     try clear hx9
     try clear qi9
     try clear c10
     try clear p2
     try clear p6
     try clear p9
     try clear q6
     try clear q9
     obtain ⟨x4_2, x5_2, rfl, rfl, HA, HK2, ⟨m2, rfl⟩⟩ := hrel
     cases gk with
     | zero => exact absurd HA.out (by simp [coppiceref12_OrphanOf.l0])
     | succ k2 =>
      have H := HA.out
      clear HA
      simp only [coppiceref12_OrphanOf.l0] at H
      by_cases c11 : x5_2 < (a0.size : Int)
      ·rw [if_pos c11] at H
       have c11b0 : decide (x5_2 < (a0.size : Int)) = true := decide_eq_true c11
       clear c11
       by_cases c12 : 0 ≤ x5_2
       ·rw [if_pos c12] at H
        have c12b0 : decide (0 ≤ x5_2) = true := decide_eq_true c12
        clear c12
        by_cases c14 : (bt a0 x5_2) < 48
        ·rw [if_pos c14] at H
         have c14b0 : decide ((bt a0 x5_2) < 48) = true := decide_eq_true c14
         clear c14
         simp only [Option.some.injEq, Prod.mk.injEq] at H
         obtain ⟨rfl, rfl⟩ := H
         have p13 : 0 ≤ (x5_2 : Int) := of_decide_eq_true (by ((with_reducible assumption)))
         have q13 : x5_2 < (a0.size : Int) := of_decide_eq_true (by ((with_reducible assumption)))
         have hx13 := bt_at a0 x5_2
         replace p13 := eq_true p13
         replace q13 := eq_true q13
         go_wp2
         go_ret2
         exact ⟨by (rfl), by repeat (first | exact Drawn0.refl _ | apply Drawn0.step)⟩
        ·rw [if_neg c14] at H
         have c14b0 : decide ((bt a0 x5_2) < 48) = false := decide_eq_false c14
         clear c14
         by_cases c16 : (bt a0 x5_2) > 57
         ·rw [if_pos c16] at H
          have c16b0 : decide (57 < (bt a0 x5_2)) = true := decide_eq_true c16
          clear c16
          simp only [Option.some.injEq, Prod.mk.injEq] at H
          obtain ⟨rfl, rfl⟩ := H
          have p13 : 0 ≤ (x5_2 : Int) := of_decide_eq_true (by ((with_reducible assumption)))
          have q13 : x5_2 < (a0.size : Int) := of_decide_eq_true (by ((with_reducible assumption)))
          have hx13 := bt_at a0 x5_2
          replace p13 := eq_true p13
          replace q13 := eq_true q13
          have p15 : 0 ≤ (x5_2 : Int) := of_decide_eq_true (by ((with_reducible assumption)))
          have q15 : x5_2 < (a0.size : Int) := of_decide_eq_true (by ((with_reducible assumption)))
          have hx15 := bt_at a0 x5_2
          replace p15 := eq_true p15
          replace q15 := eq_true q15
          go_wp2
          go_ret2
          exact ⟨by (rfl), by repeat (first | exact Drawn0.refl _ | apply Drawn0.step)⟩
         ·rw [if_neg c16] at H
          have c16b0 : decide (57 < (bt a0 x5_2)) = false := decide_eq_false c16
          clear c16
          have H' := Aside0.mk H
          clear H
          have p13 : 0 ≤ (x5_2 : Int) := of_decide_eq_true (by ((with_reducible assumption)))
          have q13 : x5_2 < (a0.size : Int) := of_decide_eq_true (by ((with_reducible assumption)))
          have hx13 := bt_at a0 x5_2
          replace p13 := eq_true p13
          replace q13 := eq_true q13
          have p15 : 0 ≤ (x5_2 : Int) := of_decide_eq_true (by ((with_reducible assumption)))
          have q15 : x5_2 < (a0.size : Int) := of_decide_eq_true (by ((with_reducible assumption)))
          have hx15 := bt_at a0 x5_2
          replace p15 := eq_true p15
          replace q15 := eq_true q15
          have p17 : 0 ≤ (x5_2 : Int) := of_decide_eq_true (by ((with_reducible assumption)))
          have q17 : x5_2 < (a0.size : Int) := of_decide_eq_true (by ((with_reducible assumption)))
          have hx17 := bt_at a0 x5_2
          replace p17 := eq_true p17
          replace q17 := eq_true q17
          go_wp2
          go_roundg k2
          case measure => have := HJ1.out; have := HK2.out; omega
          case rel => exact ⟨(wrap64 ((wrap64 (10 * x4_2)) + (((bt a0 x5_2) - 48) % 256))), (wrap64 (x5_2 + 1)), (by (rfl)), (by (rfl)), H', ⟨by have := HJ1.out; have := HK2.out; omega⟩, by repeat (first | exact Drawn0.refl _ | apply Drawn0.step)⟩
       ·rw [if_neg c12] at H
        exact absurd H (by simp)
      ·rw [if_neg c11] at H
       have c11b0 : decide (x5_2 < (a0.size : Int)) = false := decide_eq_false c11
       clear c11
       by_cases c18 : x4_2 < 1
       ·rw [if_pos c18] at H
        have c18b0 : decide (x4_2 < 1) = true := decide_eq_true c18
        clear c18
        simp only [Option.some.injEq, Prod.mk.injEq] at H
        obtain ⟨rfl, rfl⟩ := H
        go_wp2
        go_ret2
        exact ⟨by (rfl), by repeat (first | exact Drawn0.refl _ | apply Drawn0.step)⟩
       ·rw [if_neg c18] at H
        have c18b0 : decide (x4_2 < 1) = false := decide_eq_false c18
        clear c18
        by_cases c19 : x4_2 > 1099511627776
        ·rw [if_pos c19] at H
         have c19b0 : decide (1099511627776 < x4_2) = true := decide_eq_true c19
         clear c19
         simp only [Option.some.injEq, Prod.mk.injEq] at H
         obtain ⟨rfl, rfl⟩ := H
         go_wp2
         go_ret2
         exact ⟨by (rfl), by repeat (first | exact Drawn0.refl _ | apply Drawn0.step)⟩
        ·rw [if_neg c19] at H
         have c19b0 : decide (1099511627776 < x4_2) = false := decide_eq_false c19
         clear c19
         simp only [Option.some.injEq, Prod.mk.injEq] at H
         obtain ⟨rfl, rfl⟩ := H
         go_wp2
         go_ret2
         exact ⟨by (rfl), by repeat (first | exact Drawn0.refl _ | apply Drawn0.step)⟩

end Go.Proofs.YtofdpgcnconibaaGreatDoor.PA
-- WRITTEN BY a program of this session (pp.sh)
namespace Go.Proofs.YtofdpgcnconibaaGreatDoor.PA
open Go.RowKit Go.Proofs.YtofdpgcnconibaaGreatDoorW.PrintWords Go.Proofs.YtofdpgcnconibaaGreatDoorW.PrintLast Go.Proofs.YtofdpgcnconibaaGreatDoorW.PrintMore Go.Proofs.YtofdpgcnconibaaGreatDoor.Plain
attribute [local go_sem] max2_int min2_int max_two min_two max_three min_three max_four min_four binOp_leq_s binOp_gtr_s binOp_geq_s lit_byte   -- for this text's walks alone
set_option linter.unusedVariables false
set_option linter.unusedSimpArgs false

/-! ### coppiceref12_walk: function 80 -/
mutual
def coppiceref12_walk.j0 : Nat → ByteArray → Bool → Int → Option (List ByteArray × Int)
 | 0, _, _, _ => none
 | k + 1, x0, x1, x6 => if x0.toList = ([] : List UInt8) then (coppiceref12_walk.j1 k x0 x1 true) else (if 0 < (x0.size : Int) then (if (bt x0 0) = 47 then (coppiceref12_walk.j1 k x0 x1 (decide ((x0.size : Int) > x6))) else (coppiceref12_walk.j1 k x0 x1 true)) else (none))
def coppiceref12_walk.j1 : Nat → ByteArray → Bool → Bool → Option (List ByteArray × Int)
 | 0, _, _, _ => none
 | k + 1, x0, x1, x26 => if x26 = true then (some (([] : List ByteArray), 120)) else (if 1 ≤ (x0.size : Int) then ((coppiceref12_cut.f k (x0.extract 1 x0.size)).bind fun t183 => (if (t183.length : Int) > 32 then (some (([] : List ByteArray), 120)) else (coppiceref12_walk.l0 k x1 t183 0))) else (none))
def coppiceref12_walk.l0 : Nat → Bool → List ByteArray → Int → Option (List ByteArray × Int)
 | 0, _, _, _ => none
 | k + 1, x1, x7, x8 => if x8 < (x7.length : Int) then (if 0 ≤ x8 then ((coppiceref12_OrphanOf.f k (rdOf ByteArray.empty x7 x8)).bind fun bt187 => ((coppiceref12_Name.f k (rdOf ByteArray.empty x7 x8)).bind fun t190 => (if t190 = true then (coppiceref12_walk.l0 k x1 x7 (wrap64 (x8 + 1))) else (if x1 = true then (if x8 = 0 then (if bt187.2 = true then (coppiceref12_walk.l0 k x1 x7 (wrap64 (x8 + 1))) else (some (([] : List ByteArray), 120))) else (some (([] : List ByteArray), 120))) else (some (([] : List ByteArray), 120)))))) else (none)) else (some (x7, 0))
end
def coppiceref12_walk.f (k : Nat) (a0 : ByteArray) (a1 : Bool) : Option (List ByteArray × Int) := if a0.toList = ([47] : List UInt8) then (some (([] : List ByteArray), 0)) else (if a1 = true then (coppiceref12_walk.j0 k a0 a1 1037) else (coppiceref12_walk.j0 k a0 a1 1023))
set_option maxHeartbeats 8000000 in
set_option maxRecDepth 100000 in
theorem coppiceref12_walk.calls (k : Nat) (a0 : ByteArray) (a1 : Bool) (r1 : List ByteArray) (r2 : Int) (w : World) (h : coppiceref12_walk.f k a0 a1 = some (r1, r2)) :
  Calls Tryz.prog 80 #[.string a0, .bool a1] w fun e w' => ∃ v0_ : Value, e = .returned (.tuple #[v0_, .int .i64 r2]) ∧ Kd.R Kd.string 9 w' w.heap.size (fun _ => True) v0_ r1 ∧ Below w.heap.size w w' := by
 have HB := Aside0.mk (Below.refl w.heap.size w)
 have H : (if a0.toList = ([47] : List UInt8) then (some (([] : List ByteArray), 0)) else (if a1 = true then (coppiceref12_walk.j0 k a0 a1 1037) else (coppiceref12_walk.j0 k a0 a1 1023))) = some (r1, r2) := h
 clear h
 by_cases c3 : a0.toList = ([47] : List UInt8)
 ·rw [if_pos c3] at H
  have c3b0 : (a0.toList == ([47] : List UInt8)) = true := beq_iff_eq.mpr c3
  have c3b1 : (a0.toList != ([47] : List UInt8)) = false := bne_eq_false_iff_eq.mpr c3
  clear c3
  simp only [Option.some.injEq, Prod.mk.injEq] at H
  obtain ⟨rfl, rfl⟩ := H
  go_enter Tryz.func80, Tryz.ntmps80
  go_wp2
  go_ret2
  exact ⟨_, by (rfl), by (exact Kd.R_nil _ _ _ _ _), by repeat (((with_reducible (exact HB.out))))⟩
 ·rw [if_neg c3] at H
  have c3b0 : (a0.toList == ([47] : List UInt8)) = false := beq_eq_false_iff_ne.mpr c3
  have c3b1 : (a0.toList != ([47] : List UInt8)) = true := bne_iff_ne.mpr c3
  have HC4 := Aside0.mk H
  clear H
  go_enter Tryz.func80, Tryz.ntmps80
  go_upto_if 13 with (fail)
  go_cut [6] (fun v6 wc => ∃ (kq : Nat) (x6_3 : Int), v6 = .int .i64 x6_3 ∧ Aside0 (coppiceref12_walk.j0 kq a0 a1 x6_3 = some (r1, r2)) ∧ Aside0 (kq ≤ k) ∧ Aside0 (Below w.heap.size w wc))
  case first =>
   have H := HC4.out
   clear HC4
   by_cases c5 : a1 = true
   ·subst c5
    have H1 : (coppiceref12_walk.j0 k a0 true 1037) = some (r1, r2) := by rw [if_pos rfl] at H; exact H
    clear H
    have H := H1
    clear H1
    have H' := Aside0.mk H
    clear H
    go_wp2
    go_meet
    case rel => exact ⟨_, (1037), (by (rfl)), H', ⟨by (omega)⟩, ⟨by repeat (((with_reducible (exact HB.out))))⟩⟩
   ·replace c5 := Bool.eq_false_iff.mpr c5
    subst c5
    have H1 : (coppiceref12_walk.j0 k a0 false 1023) = some (r1, r2) := by rw [if_neg (show ¬ (false = true) by decide)] at H; exact H
    clear H
    have H := H1
    clear H1
    have H' := Aside0.mk H
    clear H
    go_wp2
    go_meet
    case rel => exact ⟨_, (1023), (by (rfl)), H', ⟨by (omega)⟩, ⟨by repeat (((with_reducible (exact HB.out))))⟩⟩
  case rest =>
   clear HC4
   try clear p2
   try clear c3
   try clear c3b0
   try clear c3b1
   try clear c5
   obtain ⟨kq, x6_3, rfl, HA, HJ3, HB⟩ := hcut
   cases kq with
   | zero => exact absurd HA.out (by simp [coppiceref12_walk.j0])
   | succ kj3 =>
    have H := HA.out
    clear HA
    simp only [coppiceref12_walk.j0] at H
    have HC6 := Aside0.mk H
    clear H
    go_upto_region 6 with (fail)
    go_cut [26] (fun qm wc => ∃ (kq : Nat) (qd : Bool), qm = .bool qd ∧ Aside0 (coppiceref12_walk.j1 kq a0 a1 qd = some (r1, r2)) ∧ Aside0 (kq ≤ kj3) ∧ Aside0 (Below w.heap.size w wc))
    case first =>
     have H := HC6.out
     clear HC6
     by_cases c7 : a0.toList = ([] : List UInt8)
     ·rw [if_pos c7] at H
      have c7b0 : (a0.toList == ([] : List UInt8)) = true := beq_iff_eq.mpr c7
      have c7b1 : (a0.toList != ([] : List UInt8)) = false := bne_eq_false_iff_eq.mpr c7
      clear c7
      ((skip))
      have H' := Aside0.mk H
      clear H
      go_wp2
      go_meet
      case rel => exact ⟨_, (true), (by (rfl)), H', ⟨by have := HJ3.out; (omega)⟩, ⟨by repeat (((with_reducible (exact HB.out))))⟩⟩
     ·rw [if_neg c7] at H
      have c7b0 : (a0.toList == ([] : List UInt8)) = false := beq_eq_false_iff_ne.mpr c7
      have c7b1 : (a0.toList != ([] : List UInt8)) = true := bne_iff_ne.mpr c7
      ((skip))
      by_cases c8 : 0 < (a0.size : Int)
      ·rw [if_pos c8] at H
       have c8b0 : decide (0 < (a0.size : Int)) = true := decide_eq_true c8
       have c8b1 : decide (0 < a0.size) = true := decide_eq_true (by omega)
       clear c8
       by_cases c10 : (bt a0 0) = 47
       ·rw [if_pos c10] at H
        have c10b0 : ((bt a0 0) == 47) = true := beq_iff_eq.mpr c10
        have c10b1 : ((bt a0 0) != 47) = false := bne_eq_false_iff_eq.mpr c10
        clear c10
        have H' := Aside0.mk H
        clear H
        have p9 : 0 ≤ (0 : Int) := (by omega)
        have q9 : 0 < a0.size := (by have : (0 : Int) < (a0.size : Int) := of_decide_eq_true (by ((with_reducible assumption))); omega)
        have hx9 : ∀ h : 0 < a0.size, ((a0[0]'h).toNat : Int) = bt a0 0 := bt_at a0 0
        clear p9
        have qi9 : (0 < (a0.size : Int)) = True := eq_true (of_decide_eq_true (by ((with_reducible assumption))))
        replace q9 := eq_true q9
        go_wp2
        go_meet
        case rel => exact ⟨_, (decide ((a0.size : Int) > x6_3)), (by (rfl)), H', ⟨by have := HJ3.out; (omega)⟩, ⟨by repeat (((with_reducible (exact HB.out))))⟩⟩
       ·rw [if_neg c10] at H
        have c10b0 : ((bt a0 0) == 47) = false := beq_eq_false_iff_ne.mpr c10
        have c10b1 : ((bt a0 0) != 47) = true := bne_iff_ne.mpr c10
        have H' := Aside0.mk H
        clear H
        have p9 : 0 ≤ (0 : Int) := (by omega)
        have q9 : 0 < a0.size := (by have : (0 : Int) < (a0.size : Int) := of_decide_eq_true (by ((with_reducible assumption))); omega)
        have hx9 : ∀ h : 0 < a0.size, ((a0[0]'h).toNat : Int) = bt a0 0 := bt_at a0 0
        clear p9
        have qi9 : (0 < (a0.size : Int)) = True := eq_true (of_decide_eq_true (by ((with_reducible assumption))))
        replace q9 := eq_true q9
        go_wp2
        go_meet
        case rel => exact ⟨_, (true), (by (rfl)), H', ⟨by have := HJ3.out; (omega)⟩, ⟨by repeat (((with_reducible (exact HB.out))))⟩⟩
      ·rw [if_neg c8] at H
       exact absurd H (by simp)
    case rest =>
     clear HC6
     try clear c1
     try clear p2
     try clear c3
     try clear c3b0
     try clear c3b1
     try clear c5
     try clear c7
     try clear c7b0
     try clear c7b1
     try clear c8
     try clear c8b0
     try clear c8b1
     try clear p9
     try clear q9
     try clear hx9
     try clear qi9
     try clear c10
     try clear c10b0
     try clear c10b1
     try clear p2
     try clear p9
     try clear q9
     obtain ⟨kq, qd, rfl, HA, HJ5, HB⟩ := hcut
     cases kq with
     | zero => exact absurd HA.out (by simp [coppiceref12_walk.j1])
     | succ kj5 =>
      have H := HA.out
      clear HA
      simp only [coppiceref12_walk.j1] at H
      by_cases c11 : qd = true
      ·subst c11
       have H1 : (some (([] : List ByteArray), 120)) = some (r1, r2) := by rw [if_pos rfl] at H; exact H
       clear H
       have H := H1
       clear H1
       simp only [Option.some.injEq, Prod.mk.injEq] at H
       obtain ⟨rfl, rfl⟩ := H
       go_wp2
       go_ret2
       exact ⟨_, by (rfl), by (exact Kd.R_nil _ _ _ _ _), by repeat (((with_reducible (exact HB.out))))⟩
      ·replace c11 := Bool.eq_false_iff.mpr c11
       subst c11
       have H1 : (if 1 ≤ (a0.size : Int) then ((coppiceref12_cut.f kj5 (a0.extract 1 a0.size)).bind fun qb => (if (qb.length : Int) > 32 then (some (([] : List ByteArray), 120)) else (coppiceref12_walk.l0 kj5 a1 qb 0))) else (none)) = some (r1, r2) := by rw [if_neg (show ¬ (false = true) by decide)] at H; exact H
       clear H
       have H := H1
       clear H1
       by_cases c12 : 1 ≤ (a0.size : Int)
       ·rw [if_pos c12] at H
        have c12b0 := eq_true c12
        have c12b1 : decide (1 ≤ (a0.size : Int)) = true := decide_eq_true c12
        clear c12
        replace H := Option.bind_eq_some_iff.mp H
        obtain ⟨qb, A130, H⟩ := H
        replace H : (if (qb.length : Int) > 32 then (some (([] : List ByteArray), 120)) else (coppiceref12_walk.l0 kj5 a1 qb 0)) = some (r1, r2) := H
        have A13 := Aside0.mk A130
        clear A130
        by_cases c14 : (qb.length : Int) > 32
        ·rw [if_pos c14] at H
         have c14b0 : decide (32 < (qb.length : Int)) = true := decide_eq_true c14
         have c14b1 : decide (32 < qb.length) = true := decide_eq_true (by omega)
         clear c14
         simp only [Option.some.injEq, Prod.mk.injEq] at H
         obtain ⟨rfl, rfl⟩ := H
         go_wp2_with (first | ((with_reducible refine gate_callee (f := 87) rfl ?_); refine goesL_ (some 29) rfl rfl Tryz.func87 (by kernel_rfl) rfl #[.string (a0.extract 1 a0.size)] rfl (by (try simp only [List.map_toArray, List.map_cons, List.map_nil]); (rfl)) ?_; (with_reducible refine (coppiceref12_cut.calls kj5 (a0.extract 1 a0.size) qb _ A13.out).mono ?_); rintro e w15 ⟨qk, rfl, ho0, hb⟩; refine ⟨_, rfl, ?_⟩; have n0_ := Aside0.mk (Kd.R_lower ho0 (below_size (by repeat (((with_reducible (exact HB.out))))))); have n1_ := Aside0.mk (below_step (by repeat (((with_reducible (exact HB.out))))) hb); clear HB; have qe := n0_; have HB := n1_; clear n0_ n1_; (try clear hb); (try clear hb2); (try clear hk); (try clear hi); (try clear ho0); obtain ⟨qn, qo, qi⟩ := Kd.R_slice qe.out; subst qi))
         go_ret2
         exact ⟨_, by (rfl), by (exact Kd.R_nil _ _ _ _ _), by repeat (((with_reducible (exact HB.out))))⟩
        ·rw [if_neg c14] at H
         have c14b0 : decide (32 < (qb.length : Int)) = false := decide_eq_false c14
         have c14b1 : decide (32 < qb.length) = false := decide_eq_false (by omega)
         clear c14
         have H' := Aside0.mk H
         clear H
         go_wp2_with (first | ((with_reducible refine gate_callee (f := 87) rfl ?_); refine goesL_ (some 29) rfl rfl Tryz.func87 (by kernel_rfl) rfl #[.string (a0.extract 1 a0.size)] rfl (by (try simp only [List.map_toArray, List.map_cons, List.map_nil]); (rfl)) ?_; (with_reducible refine (coppiceref12_cut.calls kj5 (a0.extract 1 a0.size) qb _ A13.out).mono ?_); rintro e w17 ⟨qk, rfl, ho0, hb⟩; refine ⟨_, rfl, ?_⟩; have n0_ := Aside0.mk (Kd.R_lower ho0 (below_size (by repeat (((with_reducible (exact HB.out))))))); have n1_ := Aside0.mk (below_step (by repeat (((with_reducible (exact HB.out))))) hb); clear HB; have qe := n0_; have HB := n1_; clear n0_ n1_; (try clear hb); (try clear hb2); (try clear hk); (try clear hi); (try clear ho0); obtain ⟨qj, ql, qh⟩ := Kd.R_slice qe.out; subst qh))
         go_loopg [8] kj5 (fun kq v8 w' => ∃ (x8_3 : Int), v8 = .int .i64 x8_3 ∧ Aside0 (coppiceref12_walk.l0 kq a1 qb x8_3 = some (r1, r2)) ∧ Aside0 (kq ≤ kj5) ∧ Aside0 (Kd.R Kd.string 9 w' w.heap.size (fun _ => True) (.slice qj qb.length ql) qb) ∧ Aside0 (Below w.heap.size w w'))
         case atStart => exact ⟨(0), (by (rfl)), H', ⟨Nat.le_refl _⟩, ⟨by exact qe.out⟩, ⟨by repeat (((with_reducible (exact HB.out))))⟩⟩
         case round =>
          clear H'
          try clear c1
          try clear p2
          try clear c3
          try clear c3b0
          try clear c3b1
          try clear c5
          try clear c7
          try clear c7b0
          try clear c7b1
          try clear c8
          try clear c8b0
          try clear c8b1
          try clear p9
          try clear q9
          try clear hx9
          try clear qi9
          try clear c10
          try clear c10b0
          try clear c10b1
          try clear c11
          try clear c12
          try clear c12b0
          try clear c12b1
          try clear c14
          try clear c14b0
          try clear c14b1
          try clear p2
          try clear p9
          try clear q9
          obtain ⟨x8_3, rfl, HA, HK3, HO_7, HB⟩ := hrel
          cases gk with
          | zero => exact absurd HA.out (by simp [coppiceref12_walk.l0])
          | succ k3 =>
           have H := HA.out
           clear HA
           simp only [coppiceref12_walk.l0] at H
           by_cases c19 : x8_3 < (qb.length : Int)
           ·rw [if_pos c19] at H
            have c19b0 : decide (x8_3 < (qb.length : Int)) = true := decide_eq_true c19
            clear c19
            by_cases c20 : 0 ≤ x8_3
            ·rw [if_pos c20] at H
             have c20b0 : decide (0 ≤ x8_3) = true := decide_eq_true c20
             clear c20
             replace H := Option.bind_eq_some_iff.mp H
             obtain ⟨⟨qf, qc⟩, A210, H⟩ := H
             replace H : ((coppiceref12_Name.f k3 (rdOf ByteArray.empty qb x8_3)).bind fun qg => (if qg = true then (coppiceref12_walk.l0 k3 a1 qb (wrap64 (x8_3 + 1))) else (if a1 = true then (if x8_3 = 0 then (if qc = true then (coppiceref12_walk.l0 k3 a1 qb (wrap64 (x8_3 + 1))) else (some (([] : List ByteArray), 120))) else (some (([] : List ByteArray), 120))) else (some (([] : List ByteArray), 120))))) = some (r1, r2) := H
             have A21 := Aside0.mk A210
             clear A210
             replace H := Option.bind_eq_some_iff.mp H
             obtain ⟨qg, A220, H⟩ := H
             replace H : (if qg = true then (coppiceref12_walk.l0 k3 a1 qb (wrap64 (x8_3 + 1))) else (if a1 = true then (if x8_3 = 0 then (if qc = true then (coppiceref12_walk.l0 k3 a1 qb (wrap64 (x8_3 + 1))) else (some (([] : List ByteArray), 120))) else (some (([] : List ByteArray), 120))) else (some (([] : List ByteArray), 120)))) = some (r1, r2) := H
             have A22 := Aside0.mk A220
             clear A220
             by_cases c23 : qg = true
             ·subst c23
              have H1 : (coppiceref12_walk.l0 k3 a1 qb (wrap64 (x8_3 + 1))) = some (r1, r2) := by rw [if_pos rfl] at H; exact H
              clear H
              have H := H1
              clear H1
              have H' := Aside0.mk H
              clear H
              have p186 : 0 ≤ (x8_3 : Int) := of_decide_eq_true (by ((with_reducible assumption)))
              have q186 : x8_3 < (qb.length : Int) := of_decide_eq_true (by ((with_reducible assumption)))
              obtain ⟨ad186, e186, hx186_0⟩ := Kd.at_string (Kd.R_reads' HO_7.out).2.2 x8_3 p186 q186
              cases e186
              replace p186 := eq_true p186
              replace q186 := eq_true q186
              go_wp2_with (first | ((with_reducible refine gate_callee (f := 88) rfl ?_); refine goesL_ (some 44) rfl rfl Tryz.func88 (by kernel_rfl) rfl #[.string (rdOf ByteArray.empty qb x8_3)] rfl (by (try simp only [List.map_toArray, List.map_cons, List.map_nil]); (rfl)) ?_; (with_reducible refine (coppiceref12_OrphanOf.calls k3 (rdOf ByteArray.empty qb x8_3) qf qc _ A21.out).mono ?_); rintro e w' ⟨rfl, ⟨nd, rfl⟩⟩; refine ⟨_, rfl, ?_⟩; have p189 : 0 ≤ (x8_3 : Int) := of_decide_eq_true (by ((with_reducible assumption))); have q189 : x8_3 < (qb.length : Int) := of_decide_eq_true (by ((with_reducible assumption))); obtain ⟨ad189, e189, hx189_0⟩ := Kd.at_string (Kd.R_reads' HO_7.out).2.2 x8_3 p189 q189; obtain rfl : ad186 = ad189 := (by injection e189); replace p189 := eq_true p189; replace q189 := eq_true q189) | ((with_reducible refine gate_callee (f := 43) rfl ?_); refine goesL_ (some 51) rfl rfl Tryz.func43 (by kernel_rfl) rfl #[.string (rdOf ByteArray.empty qb x8_3)] rfl (by (try simp only [List.map_toArray, List.map_cons, List.map_nil]); (rfl)) ?_; (with_reducible refine (coppiceref12_Name.calls k3 (rdOf ByteArray.empty qb x8_3) true _ A22.out).mono ?_); rintro e w' ⟨rfl, ⟨nd, rfl⟩⟩; refine ⟨_, rfl, ?_⟩))
              go_roundg k3
              case measure => have := HJ3.out; have := HJ5.out; have := HK3.out; omega
              case rel => exact ⟨(wrap64 (x8_3 + 1)), (by (rfl)), H', ⟨by have := HJ3.out; have := HJ5.out; have := HK3.out; omega⟩, ⟨by (with_reducible repeat ((apply Kd.R_drewN))); exact HO_7.out⟩, ⟨by repeat (((with_reducible first | exact HB.out | apply pw_below_drewN )))⟩⟩
             ·replace c23 := Bool.eq_false_iff.mpr c23
              subst c23
              have H1 : (if a1 = true then (if x8_3 = 0 then (if qc = true then (coppiceref12_walk.l0 k3 a1 qb (wrap64 (x8_3 + 1))) else (some (([] : List ByteArray), 120))) else (some (([] : List ByteArray), 120))) else (some (([] : List ByteArray), 120))) = some (r1, r2) := by rw [if_neg (show ¬ (false = true) by decide)] at H; exact H
              clear H
              have H := H1
              clear H1
              by_cases c24 : a1 = true
              ·subst c24
               have H1 : (if x8_3 = 0 then (if qc = true then (coppiceref12_walk.l0 k3 true qb (wrap64 (x8_3 + 1))) else (some (([] : List ByteArray), 120))) else (some (([] : List ByteArray), 120))) = some (r1, r2) := by rw [if_pos rfl] at H; exact H
               clear H
               have H := H1
               clear H1
               by_cases c25 : x8_3 = 0
               ·rw [if_pos c25] at H
                have c25b0 : (x8_3 == 0) = true := beq_iff_eq.mpr c25
                have c25b1 : (x8_3 != 0) = false := bne_eq_false_iff_eq.mpr c25
                clear c25
                by_cases c26 : qc = true
                ·subst c26
                 have H1 : (coppiceref12_walk.l0 k3 true qb (wrap64 (x8_3 + 1))) = some (r1, r2) := by rw [if_pos rfl] at H; exact H
                 clear H
                 have H := H1
                 clear H1
                 have H' := Aside0.mk H
                 clear H
                 have p186 : 0 ≤ (x8_3 : Int) := of_decide_eq_true (by ((with_reducible assumption)))
                 have q186 : x8_3 < (qb.length : Int) := of_decide_eq_true (by ((with_reducible assumption)))
                 obtain ⟨ad186, e186, hx186_0⟩ := Kd.at_string (Kd.R_reads' HO_7.out).2.2 x8_3 p186 q186
                 cases e186
                 replace p186 := eq_true p186
                 replace q186 := eq_true q186
                 go_wp2_with (first | ((with_reducible refine gate_callee (f := 88) rfl ?_); refine goesL_ (some 44) rfl rfl Tryz.func88 (by kernel_rfl) rfl #[.string (rdOf ByteArray.empty qb x8_3)] rfl (by (try simp only [List.map_toArray, List.map_cons, List.map_nil]); (rfl)) ?_; (with_reducible refine (coppiceref12_OrphanOf.calls k3 (rdOf ByteArray.empty qb x8_3) qf true _ A21.out).mono ?_); rintro e w' ⟨rfl, ⟨nd, rfl⟩⟩; refine ⟨_, rfl, ?_⟩; have p189 : 0 ≤ (x8_3 : Int) := of_decide_eq_true (by ((with_reducible assumption))); have q189 : x8_3 < (qb.length : Int) := of_decide_eq_true (by ((with_reducible assumption))); obtain ⟨ad189, e189, hx189_0⟩ := Kd.at_string (Kd.R_reads' HO_7.out).2.2 x8_3 p189 q189; obtain rfl : ad186 = ad189 := (by injection e189); replace p189 := eq_true p189; replace q189 := eq_true q189) | ((with_reducible refine gate_callee (f := 43) rfl ?_); refine goesL_ (some 51) rfl rfl Tryz.func43 (by kernel_rfl) rfl #[.string (rdOf ByteArray.empty qb x8_3)] rfl (by (try simp only [List.map_toArray, List.map_cons, List.map_nil]); (rfl)) ?_; (with_reducible refine (coppiceref12_Name.calls k3 (rdOf ByteArray.empty qb x8_3) false _ A22.out).mono ?_); rintro e w' ⟨rfl, ⟨nd, rfl⟩⟩; refine ⟨_, rfl, ?_⟩))
                 go_roundg k3
                 case measure => have := HJ3.out; have := HJ5.out; have := HK3.out; omega
                 case rel => exact ⟨(wrap64 (x8_3 + 1)), (by (rfl)), H', ⟨by have := HJ3.out; have := HJ5.out; have := HK3.out; omega⟩, ⟨by (with_reducible repeat ((apply Kd.R_drewN))); exact HO_7.out⟩, ⟨by repeat (((with_reducible first | exact HB.out | apply pw_below_drewN )))⟩⟩
                ·replace c26 := Bool.eq_false_iff.mpr c26
                 subst c26
                 have H1 : (some (([] : List ByteArray), 120)) = some (r1, r2) := by rw [if_neg (show ¬ (false = true) by decide)] at H; exact H
                 clear H
                 have H := H1
                 clear H1
                 simp only [Option.some.injEq, Prod.mk.injEq] at H
                 obtain ⟨rfl, rfl⟩ := H
                 have p186 : 0 ≤ (x8_3 : Int) := of_decide_eq_true (by ((with_reducible assumption)))
                 have q186 : x8_3 < (qb.length : Int) := of_decide_eq_true (by ((with_reducible assumption)))
                 obtain ⟨ad186, e186, hx186_0⟩ := Kd.at_string (Kd.R_reads' HO_7.out).2.2 x8_3 p186 q186
                 cases e186
                 replace p186 := eq_true p186
                 replace q186 := eq_true q186
                 go_wp2_with (first | ((with_reducible refine gate_callee (f := 88) rfl ?_); refine goesL_ (some 44) rfl rfl Tryz.func88 (by kernel_rfl) rfl #[.string (rdOf ByteArray.empty qb x8_3)] rfl (by (try simp only [List.map_toArray, List.map_cons, List.map_nil]); (rfl)) ?_; (with_reducible refine (coppiceref12_OrphanOf.calls k3 (rdOf ByteArray.empty qb x8_3) qf false _ A21.out).mono ?_); rintro e w' ⟨rfl, ⟨nd, rfl⟩⟩; refine ⟨_, rfl, ?_⟩; have p189 : 0 ≤ (x8_3 : Int) := of_decide_eq_true (by ((with_reducible assumption))); have q189 : x8_3 < (qb.length : Int) := of_decide_eq_true (by ((with_reducible assumption))); obtain ⟨ad189, e189, hx189_0⟩ := Kd.at_string (Kd.R_reads' HO_7.out).2.2 x8_3 p189 q189; obtain rfl : ad186 = ad189 := (by injection e189); replace p189 := eq_true p189; replace q189 := eq_true q189) | ((with_reducible refine gate_callee (f := 43) rfl ?_); refine goesL_ (some 51) rfl rfl Tryz.func43 (by kernel_rfl) rfl #[.string (rdOf ByteArray.empty qb x8_3)] rfl (by (try simp only [List.map_toArray, List.map_cons, List.map_nil]); (rfl)) ?_; (with_reducible refine (coppiceref12_Name.calls k3 (rdOf ByteArray.empty qb x8_3) false _ A22.out).mono ?_); rintro e w' ⟨rfl, ⟨nd, rfl⟩⟩; refine ⟨_, rfl, ?_⟩))
                 go_ret2
                 exact ⟨_, by (rfl), by (exact Kd.R_nil _ _ _ _ _), by repeat (((with_reducible first | exact HB.out | apply pw_below_drewN )))⟩
               ·rw [if_neg c25] at H
                have c25b0 : (x8_3 == 0) = false := beq_eq_false_iff_ne.mpr c25
                have c25b1 : (x8_3 != 0) = true := bne_iff_ne.mpr c25
                simp only [Option.some.injEq, Prod.mk.injEq] at H
                obtain ⟨rfl, rfl⟩ := H
                have p186 : 0 ≤ (x8_3 : Int) := of_decide_eq_true (by ((with_reducible assumption)))
                have q186 : x8_3 < (qb.length : Int) := of_decide_eq_true (by ((with_reducible assumption)))
                obtain ⟨ad186, e186, hx186_0⟩ := Kd.at_string (Kd.R_reads' HO_7.out).2.2 x8_3 p186 q186
                cases e186
                replace p186 := eq_true p186
                replace q186 := eq_true q186
                go_wp2_with (first | ((with_reducible refine gate_callee (f := 88) rfl ?_); refine goesL_ (some 44) rfl rfl Tryz.func88 (by kernel_rfl) rfl #[.string (rdOf ByteArray.empty qb x8_3)] rfl (by (try simp only [List.map_toArray, List.map_cons, List.map_nil]); (rfl)) ?_; (with_reducible refine (coppiceref12_OrphanOf.calls k3 (rdOf ByteArray.empty qb x8_3) qf qc _ A21.out).mono ?_); rintro e w' ⟨rfl, ⟨nd, rfl⟩⟩; refine ⟨_, rfl, ?_⟩; have p189 : 0 ≤ (x8_3 : Int) := of_decide_eq_true (by ((with_reducible assumption))); have q189 : x8_3 < (qb.length : Int) := of_decide_eq_true (by ((with_reducible assumption))); obtain ⟨ad189, e189, hx189_0⟩ := Kd.at_string (Kd.R_reads' HO_7.out).2.2 x8_3 p189 q189; obtain rfl : ad186 = ad189 := (by injection e189); replace p189 := eq_true p189; replace q189 := eq_true q189) | ((with_reducible refine gate_callee (f := 43) rfl ?_); refine goesL_ (some 51) rfl rfl Tryz.func43 (by kernel_rfl) rfl #[.string (rdOf ByteArray.empty qb x8_3)] rfl (by (try simp only [List.map_toArray, List.map_cons, List.map_nil]); (rfl)) ?_; (with_reducible refine (coppiceref12_Name.calls k3 (rdOf ByteArray.empty qb x8_3) false _ A22.out).mono ?_); rintro e w' ⟨rfl, ⟨nd, rfl⟩⟩; refine ⟨_, rfl, ?_⟩))
                go_ret2
                exact ⟨_, by (rfl), by (exact Kd.R_nil _ _ _ _ _), by repeat (((with_reducible first | exact HB.out | apply pw_below_drewN )))⟩
              ·replace c24 := Bool.eq_false_iff.mpr c24
               subst c24
               have H1 : (some (([] : List ByteArray), 120)) = some (r1, r2) := by rw [if_neg (show ¬ (false = true) by decide)] at H; exact H
               clear H
               have H := H1
               clear H1
               simp only [Option.some.injEq, Prod.mk.injEq] at H
               obtain ⟨rfl, rfl⟩ := H
               have p186 : 0 ≤ (x8_3 : Int) := of_decide_eq_true (by ((with_reducible assumption)))
               have q186 : x8_3 < (qb.length : Int) := of_decide_eq_true (by ((with_reducible assumption)))
               obtain ⟨ad186, e186, hx186_0⟩ := Kd.at_string (Kd.R_reads' HO_7.out).2.2 x8_3 p186 q186
               cases e186
               replace p186 := eq_true p186
               replace q186 := eq_true q186
               go_wp2_with (first | ((with_reducible refine gate_callee (f := 88) rfl ?_); refine goesL_ (some 44) rfl rfl Tryz.func88 (by kernel_rfl) rfl #[.string (rdOf ByteArray.empty qb x8_3)] rfl (by (try simp only [List.map_toArray, List.map_cons, List.map_nil]); (rfl)) ?_; (with_reducible refine (coppiceref12_OrphanOf.calls k3 (rdOf ByteArray.empty qb x8_3) qf qc _ A21.out).mono ?_); rintro e w' ⟨rfl, ⟨nd, rfl⟩⟩; refine ⟨_, rfl, ?_⟩; have p189 : 0 ≤ (x8_3 : Int) := of_decide_eq_true (by ((with_reducible assumption))); have q189 : x8_3 < (qb.length : Int) := of_decide_eq_true (by ((with_reducible assumption))); obtain ⟨ad189, e189, hx189_0⟩ := Kd.at_string (Kd.R_reads' HO_7.out).2.2 x8_3 p189 q189; obtain rfl : ad186 = ad189 := (by injection e189); replace p189 := eq_true p189; replace q189 := eq_true q189) | ((with_reducible refine gate_callee (f := 43) rfl ?_); refine goesL_ (some 51) rfl rfl Tryz.func43 (by kernel_rfl) rfl #[.string (rdOf ByteArray.empty qb x8_3)] rfl (by (try simp only [List.map_toArray, List.map_cons, List.map_nil]); (rfl)) ?_; (with_reducible refine (coppiceref12_Name.calls k3 (rdOf ByteArray.empty qb x8_3) false _ A22.out).mono ?_); rintro e w' ⟨rfl, ⟨nd, rfl⟩⟩; refine ⟨_, rfl, ?_⟩))
               go_ret2
               exact ⟨_, by (rfl), by (exact Kd.R_nil _ _ _ _ _), by repeat (((with_reducible first | exact HB.out | apply pw_below_drewN )))⟩
            ·rw [if_neg c20] at H
             exact absurd H (by simp)
           ·rw [if_neg c19] at H
            have c19b0 : decide (x8_3 < (qb.length : Int)) = false := decide_eq_false c19
            clear c19
            simp only [Option.some.injEq, Prod.mk.injEq] at H
            obtain ⟨rfl, rfl⟩ := H
            go_wp2
            go_ret2
            exact ⟨_, by (rfl), by exact HO_7.out, by repeat (((with_reducible (exact HB.out))))⟩
       ·rw [if_neg c12] at H
        exact absurd H (by simp)

end Go.Proofs.YtofdpgcnconibaaGreatDoor.PA
-- WRITTEN BY a program of this session (pp.sh)
namespace Go.Proofs.YtofdpgcnconibaaGreatDoor.PA
open Go.RowKit Go.Proofs.YtofdpgcnconibaaGreatDoorW.PrintWords Go.Proofs.YtofdpgcnconibaaGreatDoorW.PrintLast Go.Proofs.YtofdpgcnconibaaGreatDoorW.PrintMore Go.Proofs.YtofdpgcnconibaaGreatDoor.Plain
attribute [local go_sem] max2_int min2_int max_two min_two max_three min_three max_four min_four binOp_leq_s binOp_gtr_s binOp_geq_s lit_byte   -- for this text's walks alone
set_option linter.unusedVariables false
set_option linter.unusedSimpArgs false

/-! ### coppiceref12_Loose: function 67 -/
def coppiceref12_Loose.f (k : Nat) (a0 : ByteArray) : Option (List ByteArray × Int) := (coppiceref12_walk.f k a0 true).bind fun bt191 => (some (bt191.1, bt191.2))
set_option maxHeartbeats 8000000 in
set_option maxRecDepth 100000 in
theorem coppiceref12_Loose.calls (k : Nat) (a0 : ByteArray) (r1 : List ByteArray) (r2 : Int) (w : World) (h : coppiceref12_Loose.f k a0 = some (r1, r2)) :
  Calls Tryz.prog 67 #[.string a0] w fun e w' => ∃ v0_ : Value, e = .returned (.tuple #[v0_, .int .i64 r2]) ∧ Kd.R Kd.string 9 w' w.heap.size (fun _ => True) v0_ r1 ∧ Below w.heap.size w w' := by
 have HB := Aside0.mk (Below.refl w.heap.size w)
 have H : ((coppiceref12_walk.f k a0 true).bind fun qd => (some (qd.1, qd.2))) = some (r1, r2) := h
 clear h
 replace H := Option.bind_eq_some_iff.mp H
 obtain ⟨⟨qg, qf⟩, A20, H⟩ := H
 replace H : (some (qg, qf)) = some (r1, r2) := H
 have A2 := Aside0.mk A20
 clear A20
 simp only [Option.some.injEq, Prod.mk.injEq] at H
 obtain ⟨rfl, rfl⟩ := H
 go_enter Tryz.func67, Tryz.ntmps67
 go_wp2_with (first | ((with_reducible refine gate_callee (f := 80) rfl ?_); refine goesL_ (some 5) rfl rfl Tryz.func80 (by kernel_rfl) rfl #[.string a0, .bool true] rfl (by (try simp only [List.map_toArray, List.map_cons, List.map_nil]); (rfl)) ?_; (with_reducible refine (coppiceref12_walk.calls k a0 true qg qf _ A2.out).mono ?_); rintro e w3 ⟨qn, rfl, ho0, hb⟩; refine ⟨_, rfl, ?_⟩; have n0_ := Aside0.mk (Kd.R_lower ho0 (below_size (by repeat (((with_reducible (exact HB.out))))))); have n1_ := Aside0.mk (below_step (by repeat (((with_reducible (exact HB.out))))) hb); clear HB; have qh := n0_; have HB := n1_; clear n0_ n1_; (try clear hb); (try clear hb2); (try clear hk); (try clear hi); (try clear ho0)))
 go_ret2
 exact ⟨_, by (rfl), by exact qh.out, by repeat (((with_reducible (exact HB.out))))⟩

/-! ### coppiceref19_loose: function 42 -/
def coppiceref19_loose.f (k : Nat) (a0 : ByteArray) : Option (Bool) := (coppiceref12_Loose.f k a0).bind fun qc => (some (qc.2 == 0))
set_option maxHeartbeats 8000000 in
set_option maxRecDepth 100000 in
theorem coppiceref19_loose.calls (k : Nat) (a0 : ByteArray) (r : Bool) (w : World) (h : coppiceref19_loose.f k a0 = some r) :
  Calls Tryz.prog 42 #[.string a0] w fun e w' => e = .returned (.bool r) ∧ Below w.heap.size w w' := by
 have HB := Aside0.mk (Below.refl w.heap.size w)
 have H : ((coppiceref12_Loose.f k a0).bind fun qc => (some (qc.2 == 0))) = some r := h
 clear h
 replace H := Option.bind_eq_some_iff.mp H
 obtain ⟨⟨qi, qe⟩, A20, H⟩ := H
 replace H : (some (qe == 0)) = some r := H
 have A2 := Aside0.mk A20
 clear A20
 obtain rfl := Option.some.inj H
 go_enter Tryz.func42, Tryz.ntmps42
 go_wp2_with (first | ((with_reducible refine gate_callee (f := 67) rfl ?_); refine goesL_ (some 7) rfl rfl Tryz.func67 (by kernel_rfl) rfl #[.string a0] rfl (by (try simp only [List.map_toArray, List.map_cons, List.map_nil]); (rfl)) ?_; (with_reducible refine (coppiceref12_Loose.calls k a0 qi qe _ A2.out).mono ?_); rintro e w3 ⟨qm, rfl, ho0, hb⟩; refine ⟨_, rfl, ?_⟩; have n0_ := Aside0.mk (Kd.R_lower ho0 (below_size (by repeat (((with_reducible (exact HB.out))))))); have n1_ := Aside0.mk (below_step (by repeat (((with_reducible (exact HB.out))))) hb); clear HB; have ql := n0_; have HB := n1_; clear n0_ n1_; (try clear hb); (try clear hb2); (try clear hk); (try clear hi); (try clear ho0)))
 go_ret
 exact ⟨by (rfl), by repeat (((with_reducible (exact HB.out))))⟩

/-! ### coppiceref19_bounds: function 44 -/
mutual
def coppiceref19_bounds.j0 : Nat → Int → Bool → Option (Int × Int)
 | 0, _, _ => none
 | k + 1, x4, x5 => if x5 = true then (some (2, 1099511627776)) else (if x4 = 8 then (some (0, 4611686018427387904)) else (if x4 = 9 then (coppiceref19_bounds.j1 k x4 (x4 == 9)) else (coppiceref19_bounds.j1 k x4 (x4 == 11))))
def coppiceref19_bounds.j1 : Nat → Int → Bool → Option (Int × Int)
 | 0, _, _ => none
 | k + 1, x4, qk => if qk = true then (some (0, 72057594037927935)) else (if x4 = 10 then (some (1, 72057594037927935)) else (if x4 = 14 then (some (0, 4095)) else (if x4 = 16 then (some (2, 1099511627777)) else (some ((-9223372036854775808), 9223372036854775807)))))
end
def coppiceref19_bounds.f (k : Nat) (a0 : Int) : Option (Int × Int) := if a0 = 1 then (coppiceref19_bounds.j0 k a0 (a0 == 1)) else (if a0 = 2 then (coppiceref19_bounds.j0 k a0 (a0 == 2)) else (coppiceref19_bounds.j0 k a0 (a0 == 3)))
set_option maxHeartbeats 8000000 in
set_option maxRecDepth 100000 in
theorem coppiceref19_bounds.calls (k : Nat) (a0 : Int) (r1 : Int) (r2 : Int) (w : World) (h : coppiceref19_bounds.f k a0 = some (r1, r2)) :
  Calls Tryz.prog 44 #[.int .i64 a0] w fun e w' => e = .returned (.tuple #[.int .i64 r1, .int .i64 r2]) ∧ Drawn0 w w' := by
 have H : (if a0 = 1 then (coppiceref19_bounds.j0 k a0 (a0 == 1)) else (if a0 = 2 then (coppiceref19_bounds.j0 k a0 (a0 == 2)) else (coppiceref19_bounds.j0 k a0 (a0 == 3)))) = some (r1, r2) := h
 clear h
 have HC2 := Aside0.mk H
 clear H
 go_enter Tryz.func44, Tryz.ntmps44
 go_upto_if 5 with (fail)
 go_cut [5] (fun v5 wc => ∃ (kq : Nat) (x5_1 : Bool), v5 = .bool x5_1 ∧ Aside0 (coppiceref19_bounds.j0 kq a0 x5_1 = some (r1, r2)) ∧ Aside0 (kq ≤ k) ∧ Drawn0 w wc)
 case first =>
  have H := HC2.out
  clear HC2
  by_cases c3 : a0 = 1
  ·rw [if_pos c3] at H
   have c3b0 : (a0 == 1) = true := beq_iff_eq.mpr c3
   have c3b1 : (a0 != 1) = false := bne_eq_false_iff_eq.mpr c3
   clear c3
   ((rw [c3b0]))
   have H' := Aside0.mk H
   clear H
   go_wp2
   go_meet
   case rel => exact ⟨_, ((a0 == 1)), (by ((simp [*]; done))), H', ⟨by (omega)⟩, by repeat ((exact Drawn0.refl _))⟩
  ·rw [if_neg c3] at H
   have c3b0 : (a0 == 1) = false := beq_eq_false_iff_ne.mpr c3
   have c3b1 : (a0 != 1) = true := bne_iff_ne.mpr c3
   ((rw [c3b0]))
   by_cases c4 : a0 = 2
   ·rw [if_pos c4] at H
    have c4b0 : (a0 == 2) = true := beq_iff_eq.mpr c4
    have c4b1 : (a0 != 2) = false := bne_eq_false_iff_eq.mpr c4
    clear c4
    have H' := Aside0.mk H
    clear H
    go_wp2
    go_meet
    case rel => exact ⟨_, ((a0 == 2)), (by ((simp [*]; done))), H', ⟨by (omega)⟩, by repeat ((exact Drawn0.refl _))⟩
   ·rw [if_neg c4] at H
    have c4b0 : (a0 == 2) = false := beq_eq_false_iff_ne.mpr c4
    have c4b1 : (a0 != 2) = true := bne_iff_ne.mpr c4
    have H' := Aside0.mk H
    clear H
    go_wp2
    go_meet
    case rel => exact ⟨_, ((a0 == 3)), (by (rfl)), H', ⟨by (omega)⟩, by repeat ((exact Drawn0.refl _))⟩
 case rest =>
  clear HC2
  try clear p2
  try clear c3
  try clear c3b0
  try clear c3b1
  try clear c4
  try clear c4b0
  try clear c4b1
  obtain ⟨kq, x5_1, rfl, HA, HJ1, ⟨mc1, rfl⟩⟩ := hcut
  cases kq with
  | zero => exact absurd HA.out (by simp [coppiceref19_bounds.j0])
  | succ kj1 =>
   have H := HA.out
   clear HA
   simp only [coppiceref19_bounds.j0] at H
   by_cases c5 : x5_1 = true
   ·subst c5
    have H1 : (some (2, 1099511627776)) = some (r1, r2) := by rw [if_pos rfl] at H; exact H
    clear H
    have H := H1
    clear H1
    simp only [Option.some.injEq, Prod.mk.injEq] at H
    obtain ⟨rfl, rfl⟩ := H
    go_wp2
    go_ret2
    exact ⟨by (rfl), by repeat (first | exact Drawn0.refl _ | apply Drawn0.step)⟩
   ·replace c5 := Bool.eq_false_iff.mpr c5
    subst c5
    have H1 : (if a0 = 8 then (some (0, 4611686018427387904)) else (if a0 = 9 then (coppiceref19_bounds.j1 kj1 a0 (a0 == 9)) else (coppiceref19_bounds.j1 kj1 a0 (a0 == 11)))) = some (r1, r2) := by rw [if_neg (show ¬ (false = true) by decide)] at H; exact H
    clear H
    have H := H1
    clear H1
    by_cases c6 : a0 = 8
    ·rw [if_pos c6] at H
     have c6b0 : (a0 == 8) = true := beq_iff_eq.mpr c6
     have c6b1 : (a0 != 8) = false := bne_eq_false_iff_eq.mpr c6
     clear c6
     simp only [Option.some.injEq, Prod.mk.injEq] at H
     obtain ⟨rfl, rfl⟩ := H
     go_wp2
     go_ret2
     exact ⟨by (rfl), by repeat (first | exact Drawn0.refl _ | apply Drawn0.step)⟩
    ·rw [if_neg c6] at H
     have c6b0 : (a0 == 8) = false := beq_eq_false_iff_ne.mpr c6
     have c6b1 : (a0 != 8) = true := bne_iff_ne.mpr c6
     have HC7 := Aside0.mk H
     clear H
     go_upto_if 11 with (fail)
     go_cut [11] (fun qj wc => ∃ (kq : Nat) (qb : Bool), qj = .bool qb ∧ Aside0 (coppiceref19_bounds.j1 kq a0 qb = some (r1, r2)) ∧ Aside0 (kq ≤ kj1) ∧ Drawn0 w wc)
     case first =>
      have H := HC7.out
      clear HC7
      by_cases c8 : a0 = 9
      ·rw [if_pos c8] at H
       have c8b0 : (a0 == 9) = true := beq_iff_eq.mpr c8
       have c8b1 : (a0 != 9) = false := bne_eq_false_iff_eq.mpr c8
       clear c8
       ((rw [c8b0]))
       have H' := Aside0.mk H
       clear H
       go_wp2
       go_meet
       case rel => exact ⟨_, ((a0 == 9)), (by ((simp [*]; done))), H', ⟨by have := HJ1.out; (omega)⟩, by repeat (first | exact Drawn0.refl _ | apply Drawn0.step)⟩
      ·rw [if_neg c8] at H
       have c8b0 : (a0 == 9) = false := beq_eq_false_iff_ne.mpr c8
       have c8b1 : (a0 != 9) = true := bne_iff_ne.mpr c8
       ((rw [c8b0]))
       have H' := Aside0.mk H
       clear H
       go_wp2
       go_meet
       case rel => exact ⟨_, ((a0 == 11)), (by (rfl)), H', ⟨by have := HJ1.out; (omega)⟩, by repeat (first | exact Drawn0.refl _ | apply Drawn0.step)⟩
     case rest =>
      clear HC7
      try clear c1
      try clear p2
      try clear c3
      try clear c3b0
      try clear c3b1
      try clear c4
      try clear c4b0
      try clear c4b1
      try clear c5
      try clear c6
      try clear c6b0
      try clear c6b1
      try clear c8
      try clear c8b0
      try clear c8b1
      try clear p2
      obtain ⟨kq, qb, rfl, HA, HJ6, ⟨mc6, rfl⟩⟩ := hcut
      cases kq with
      | zero => exact absurd HA.out (by simp [coppiceref19_bounds.j1])
      | succ kj6 =>
       have H := HA.out
       clear HA
       simp only [coppiceref19_bounds.j1] at H
       by_cases c9 : qb = true
       ·subst c9
        have H1 : (some (0, 72057594037927935)) = some (r1, r2) := by rw [if_pos rfl] at H; exact H
        clear H
        have H := H1
        clear H1
        simp only [Option.some.injEq, Prod.mk.injEq] at H
        obtain ⟨rfl, rfl⟩ := H
        go_wp2
        go_ret2
        exact ⟨by (rfl), by repeat (first | exact Drawn0.refl _ | apply Drawn0.step)⟩
       ·replace c9 := Bool.eq_false_iff.mpr c9
        subst c9
        have H1 : (if a0 = 10 then (some (1, 72057594037927935)) else (if a0 = 14 then (some (0, 4095)) else (if a0 = 16 then (some (2, 1099511627777)) else (some ((-9223372036854775808), 9223372036854775807))))) = some (r1, r2) := by rw [if_neg (show ¬ (false = true) by decide)] at H; exact H
        clear H
        have H := H1
        clear H1
        by_cases c10 : a0 = 10
        ·rw [if_pos c10] at H
         have c10b0 : (a0 == 10) = true := beq_iff_eq.mpr c10
         have c10b1 : (a0 != 10) = false := bne_eq_false_iff_eq.mpr c10
         clear c10
         simp only [Option.some.injEq, Prod.mk.injEq] at H
         obtain ⟨rfl, rfl⟩ := H
         go_wp2
         go_ret2
         exact ⟨by (rfl), by repeat (first | exact Drawn0.refl _ | apply Drawn0.step)⟩
        ·rw [if_neg c10] at H
         have c10b0 : (a0 == 10) = false := beq_eq_false_iff_ne.mpr c10
         have c10b1 : (a0 != 10) = true := bne_iff_ne.mpr c10
         by_cases c11 : a0 = 14
         ·rw [if_pos c11] at H
          have c11b0 : (a0 == 14) = true := beq_iff_eq.mpr c11
          have c11b1 : (a0 != 14) = false := bne_eq_false_iff_eq.mpr c11
          clear c11
          simp only [Option.some.injEq, Prod.mk.injEq] at H
          obtain ⟨rfl, rfl⟩ := H
          go_wp2
          go_ret2
          exact ⟨by (rfl), by repeat (first | exact Drawn0.refl _ | apply Drawn0.step)⟩
         ·rw [if_neg c11] at H
          have c11b0 : (a0 == 14) = false := beq_eq_false_iff_ne.mpr c11
          have c11b1 : (a0 != 14) = true := bne_iff_ne.mpr c11
          by_cases c12 : a0 = 16
          ·rw [if_pos c12] at H
           have c12b0 : (a0 == 16) = true := beq_iff_eq.mpr c12
           have c12b1 : (a0 != 16) = false := bne_eq_false_iff_eq.mpr c12
           clear c12
           simp only [Option.some.injEq, Prod.mk.injEq] at H
           obtain ⟨rfl, rfl⟩ := H
           go_wp2
           go_ret2
           exact ⟨by (rfl), by repeat (first | exact Drawn0.refl _ | apply Drawn0.step)⟩
          ·rw [if_neg c12] at H
           have c12b0 : (a0 == 16) = false := beq_eq_false_iff_ne.mpr c12
           have c12b1 : (a0 != 16) = true := bne_iff_ne.mpr c12
           simp only [Option.some.injEq, Prod.mk.injEq] at H
           obtain ⟨rfl, rfl⟩ := H
           go_wp2
           go_ret2
           exact ⟨by (rfl), by repeat (first | exact Drawn0.refl _ | apply Drawn0.step)⟩

end Go.Proofs.YtofdpgcnconibaaGreatDoor.PA
-- WRITTEN BY a program of this session (pp.sh)
namespace Go.Proofs.YtofdpgcnconibaaGreatDoor.PA
open Go.RowKit Go.Proofs.YtofdpgcnconibaaGreatDoorW.PrintWords Go.Proofs.YtofdpgcnconibaaGreatDoorW.PrintLast Go.Proofs.YtofdpgcnconibaaGreatDoorW.PrintMore Go.Proofs.YtofdpgcnconibaaGreatDoor.Plain
attribute [local go_sem] max2_int min2_int max_two min_two max_three min_three max_four min_four binOp_leq_s binOp_gtr_s binOp_geq_s lit_byte   -- for this text's walks alone
set_option linter.unusedVariables false
set_option linter.unusedSimpArgs false

/-! ### coppiceref12_Target: function 45 -/
def coppiceref12_Target.l0 : Nat → ByteArray → Int → Option (Bool)
 | 0, _, _ => none
 | k + 1, x0, x3 => if x3 < (x0.size : Int) then (if 0 ≤ x3 then (if (bt x0 x3) = 0 then (some false) else (coppiceref12_Target.l0 k x0 (wrap64 (x3 + 1)))) else (none)) else (if (x0.size : Int) ≥ 1 then (some (decide ((x0.size : Int) ≤ 100))) else (some false))
def coppiceref12_Target.f (k : Nat) (a0 : ByteArray) : Option (Bool) := coppiceref12_Target.l0 k a0 0
set_option maxHeartbeats 8000000 in
set_option maxRecDepth 100000 in
theorem coppiceref12_Target.calls (k : Nat) (a0 : ByteArray) (r : Bool) (w : World) (h : coppiceref12_Target.f k a0 = some r) :
  Calls Tryz.prog 45 #[.string a0] w fun e w' => e = .returned (.bool r) ∧ Drawn0 w w' := by
 have H : (coppiceref12_Target.l0 k a0 0) = some r := h
 clear h
 have H' := Aside0.mk H
 clear H
 go_enter Tryz.func45, Tryz.ntmps45
 go_wp2
 go_loopg [3] k (fun kq v3 w' => ∃ (x3_1 : Int), v3 = .int .i64 x3_1 ∧ Aside0 (coppiceref12_Target.l0 kq a0 x3_1 = some r) ∧ Aside0 (kq ≤ k) ∧ Drawn0 w w')
 case atStart => exact ⟨(0), (by (rfl)), H', ⟨Nat.le_refl _⟩, by repeat ((exact Drawn0.refl _))⟩
 case round =>
  clear H'
  obtain ⟨x3_1, rfl, HA, HK1, ⟨m1, rfl⟩⟩ := hrel
  cases gk with
  | zero => exact absurd HA.out (by simp [coppiceref12_Target.l0])
  | succ k1 =>
   have H := HA.out
   clear HA
   simp only [coppiceref12_Target.l0] at H
   by_cases c2 : x3_1 < (a0.size : Int)
   ·rw [if_pos c2] at H
    have c2b0 : decide (x3_1 < (a0.size : Int)) = true := decide_eq_true c2
    clear c2
    by_cases c3 : 0 ≤ x3_1
    ·rw [if_pos c3] at H
     have c3b0 : decide (0 ≤ x3_1) = true := decide_eq_true c3
     clear c3
     by_cases c5 : (bt a0 x3_1) = 0
     ·rw [if_pos c5] at H
      have c5b0 : ((bt a0 x3_1) == 0) = true := beq_iff_eq.mpr c5
      have c5b1 : ((bt a0 x3_1) != 0) = false := bne_eq_false_iff_eq.mpr c5
      clear c5
      obtain rfl := Option.some.inj H
      have p4 : 0 ≤ (x3_1 : Int) := of_decide_eq_true (by ((with_reducible assumption)))
      have q4 : x3_1 < (a0.size : Int) := of_decide_eq_true (by ((with_reducible assumption)))
      have hx4 := bt_at a0 x3_1
      replace p4 := eq_true p4
      replace q4 := eq_true q4
      go_wp2
      go_ret
      exact ⟨by (rfl), by repeat (first | exact Drawn0.refl _ | apply Drawn0.step)⟩
     ·rw [if_neg c5] at H
      have c5b0 : ((bt a0 x3_1) == 0) = false := beq_eq_false_iff_ne.mpr c5
      have c5b1 : ((bt a0 x3_1) != 0) = true := bne_iff_ne.mpr c5
      have H' := Aside0.mk H
      clear H
      have p4 : 0 ≤ (x3_1 : Int) := of_decide_eq_true (by ((with_reducible assumption)))
      have q4 : x3_1 < (a0.size : Int) := of_decide_eq_true (by ((with_reducible assumption)))
      have hx4 := bt_at a0 x3_1
      replace p4 := eq_true p4
      replace q4 := eq_true q4
      go_wp2
      go_roundg k1
      case measure => have := HK1.out; omega
      case rel => exact ⟨(wrap64 (x3_1 + 1)), (by (rfl)), H', ⟨by have := HK1.out; omega⟩, by repeat (first | exact Drawn0.refl _ | apply Drawn0.step)⟩
    ·rw [if_neg c3] at H
     exact absurd H (by simp)
   ·rw [if_neg c2] at H
    have c2b0 : decide (x3_1 < (a0.size : Int)) = false := decide_eq_false c2
    clear c2
    by_cases c6 : (a0.size : Int) ≥ 1
    ·rw [if_pos c6] at H
     have c6b0 : decide (1 ≤ (a0.size : Int)) = true := decide_eq_true c6
     have c6b1 : decide (1 ≤ a0.size) = true := decide_eq_true (by omega)
     clear c6
     obtain rfl := Option.some.inj H
     go_wp2
     go_ret
     exact ⟨by (rfl), by repeat (first | exact Drawn0.refl _ | apply Drawn0.step)⟩
    ·rw [if_neg c6] at H
     have c6b0 : decide (1 ≤ (a0.size : Int)) = false := decide_eq_false c6
     have c6b1 : decide (1 ≤ a0.size) = false := decide_eq_false (by omega)
     clear c6
     obtain rfl := Option.some.inj H
     go_wp2
     go_ret
     exact ⟨by (rfl), by repeat (first | exact Drawn0.refl _ | apply Drawn0.step)⟩

end Go.Proofs.YtofdpgcnconibaaGreatDoor.PA
