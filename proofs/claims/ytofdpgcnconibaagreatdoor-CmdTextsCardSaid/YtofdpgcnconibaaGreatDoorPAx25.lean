-- WRITTEN BY a program of this session (pp.sh)
import Derived.Test.YtofdpgcnconibaaGreatDoorPAx0
import Derived.Test.YtofdpgcnconibaaGreatDoorPAx22
set_option linter.unusedVariables false
set_option linter.unusedSimpArgs false
namespace Go.Proofs.YtofdpgcnconibaaGreatDoor.PA
open Go.RowKit Go.Proofs.YtofdpgcnconibaaGreatDoorW.PrintWords Go.Proofs.YtofdpgcnconibaaGreatDoorW.PrintLast Go.Proofs.YtofdpgcnconibaaGreatDoorW.PrintMore Go.Proofs.YtofdpgcnconibaaGreatDoor.Plain
attribute [local go_sem] max2_int min2_int max_two min_two max_three min_three max_four min_four binOp_leq_s binOp_gtr_s binOp_geq_s lit_byte   -- for this text's walks alone
set_option linter.unusedVariables false
set_option linter.unusedSimpArgs false

/-! ### pack_Reader_End: function 55, by hand -/
def pack_Reader_End.f (s : ByteArray) (at_ err : Int) : Option (Int × ByteArray × Int × Int) :=
  if err = 0 ∧ at_ < (s.size : Int) then some (22, s, at_, err) else some (err, s, at_, err)
set_option maxHeartbeats 1000000 in
theorem pack_Reader_End.fails (g : Nat) (s : ByteArray) (at_ err : Int) (w0 W : World) (hI : IsS125 w0 W g s at_ err) (b : Bool) (hb : (err != 0) = b) :
    Calls Tryz.prog 70 #[.pointer (some ⟨g, 0, none⟩)] W fun e w' => e = .returned (.bool b) ∧ w' = W := by
  obtain ⟨HG, hg⟩ := hI
  have hc2 := cellS125_2 HG
  have hf2 := blk_frozen HG 2
  clear HG hg
  cases b
  · go_enter Tryz.func70, Tryz.ntmps70
    go_wp2
    go_ret
    exact ⟨rfl, rfl⟩
  · go_enter Tryz.func70, Tryz.ntmps70
    go_wp2
    go_ret
    exact ⟨rfl, rfl⟩
set_option maxHeartbeats 1000000 in
set_option maxRecDepth 100000 in
theorem pack_Reader_End.calls (g : Nat) (s0_0 : ByteArray) (s0_1 s0_2 : Int) (r1 : Int) (r2 : ByteArray) (r3 r4 : Int) (w0 w : World) (hI : IsS125 w0 w g s0_0 s0_1 s0_2) (hB : Below w0.heap.size w0 w)
   (h : pack_Reader_End.f s0_0 s0_1 s0_2 = some (r1, r2, r3, r4)) :
    Calls Tryz.prog 55 #[.pointer (some ⟨g, 0, none⟩)] w fun e w' => e = .returned (.int .i64 r1) ∧ IsS125 w0 w' g r2 r3 r4 ∧ Below w0.heap.size w0 w' ∧ KeepBut w w' g none := by
  unfold pack_Reader_End.f at h
  have HI0 := Aside0.mk hI
  have HB := Aside0.mk hB
  obtain ⟨HG, hg⟩ := hI
  have hc0 := cellS125_0 HG
  have hc1 := cellS125_1 HG
  have hc2 := cellS125_2 HG
  have hf0 := blk_frozen HG 0
  have hf1 := blk_frozen HG 1
  have hf2 := blk_frozen HG 2
  clear HG hg hB
  by_cases c : s0_2 = 0 ∧ s0_1 < (s0_0.size : Int)
  · rw [if_pos c] at h
    obtain ⟨rfl, rfl, rfl, rfl⟩ : 22 = r1 ∧ s0_0 = r2 ∧ s0_1 = r3 ∧ s0_2 = r4 := by simpa using h
    obtain ⟨c0, c1⟩ := c
    have e0 : (s0_2 == 0) = true := beq_iff_eq.mpr c0
    have HE : Aside0 ((s0_2 != 0) = false) := ⟨by simp [c0]⟩
    have e2 : decide (s0_1 < (s0_0.size : Int)) = true := decide_eq_true c1
    clear c0 c1 h
    go_enter Tryz.func55, Tryz.ntmps55
    go_wp2
    go_quiet ((go_at_call 70; exact Calls.quiet_of_same (pack_Reader_End.fails g s0_0 s0_1 s0_2 w0 _ (HI0.out.drewN _) _ HE.out)))
    go_wp2
    go_ret
    exact ⟨rfl, HI0.out.drewN _, pw_below_drewN HB.out _, keep_drewN (KeepBut.refl w g none) _⟩
  · rw [if_neg c] at h
    obtain ⟨rfl, rfl, rfl, rfl⟩ : s0_2 = r1 ∧ s0_0 = r2 ∧ s0_1 = r3 ∧ s0_2 = r4 := by simpa using h
    clear h
    by_cases c0 : s0_2 = 0
    · have c1 : ¬ s0_1 < (s0_0.size : Int) := fun h => c ⟨c0, h⟩
      have e0 : (s0_2 == 0) = true := beq_iff_eq.mpr c0
      have HE : Aside0 ((s0_2 != 0) = false) := ⟨by simp [c0]⟩
      have e2 : decide (s0_1 < (s0_0.size : Int)) = false := decide_eq_false c1
      clear c0 c1 c
      go_enter Tryz.func55, Tryz.ntmps55
      go_wp2
      go_quiet ((go_at_call 70; exact Calls.quiet_of_same (pack_Reader_End.fails g s0_0 s0_1 s0_2 w0 _ (HI0.out.drewN _) _ HE.out)))
      go_wp2
      go_ret
      exact ⟨rfl, HI0.out.drewN _, pw_below_drewN HB.out _, keep_drewN (KeepBut.refl w g none) _⟩
    · have e0 : (s0_2 == 0) = false := beq_eq_false_iff_ne.mpr c0
      have HE : Aside0 ((s0_2 != 0) = true) := ⟨bne_iff_ne.mpr c0⟩
      clear c0 c
      go_enter Tryz.func55, Tryz.ntmps55
      go_wp2
      go_quiet ((go_at_call 70; exact Calls.quiet_of_same (pack_Reader_End.fails g s0_0 s0_1 s0_2 w0 _ (HI0.out.drewN _) _ HE.out)))
      go_wp2
      go_ret
      exact ⟨rfl, HI0.out.drewN _, pw_below_drewN HB.out _, keep_drewN (KeepBut.refl w g none) _⟩


/-! ### pack_Reader_Left: function 56 -/
def pack_Reader_Left.f (s0_0 : ByteArray) (s0_1 : Int) (s0_2 : Int) : Option (Int × ByteArray × Int × Int) := (pack_Reader_fails.f s0_0 s0_1 s0_2).bind fun bt260 => (if bt260.1 = true then (some (0, bt260.2.1, bt260.2.2.1, bt260.2.2.2)) else (some (wrap64 ((bt260.2.1.size : Int) - bt260.2.2.1), bt260.2.1, bt260.2.2.1, bt260.2.2.2)))
set_option maxHeartbeats 8000000 in
set_option maxRecDepth 100000 in
theorem pack_Reader_Left.calls (g : Nat) (s0_0 : ByteArray) (s0_1 : Int) (s0_2 : Int) (r1 : Int) (r2 : ByteArray) (r3 : Int) (r4 : Int) (w0 w : World) (hI : IsS125 w0 w g s0_0 s0_1 s0_2) (hB : Below w0.heap.size w0 w) (h : pack_Reader_Left.f s0_0 s0_1 s0_2 = some (r1, r2, r3, r4)) :
  Calls Tryz.prog 56 #[.pointer (some ⟨g, 0, none⟩)] w fun e w' => e = .returned (.int .i64 r1) ∧ IsS125 w0 w' g r2 r3 r4 ∧ Below w0.heap.size w0 w' ∧ KeepBut w w' g none := by
 have HI0 := Aside0.mk hI
 have HK := Aside0.mk (KeepBut.refl w g none)
 have HL := Aside0.mk hB.size
 clear hI
 have HW0 := Aside0.mk hB.size
 have HB := Aside0.mk hB
 clear hB
 have H : ((pack_Reader_fails.f s0_0 s0_1 s0_2).bind fun bt260 => (if bt260.1 = true then (some (0, bt260.2.1, bt260.2.2.1, bt260.2.2.2)) else (some (wrap64 ((bt260.2.1.size : Int) - bt260.2.2.1), bt260.2.1, bt260.2.2.1, bt260.2.2.2)))) = some (r1, r2, r3, r4) := h
 clear h
 replace H := Option.bind_eq_some_iff.mp H
 obtain ⟨⟨t260, t261, t262, t263⟩, A20, H⟩ := H
 replace H : (if t260 = true then (some (0, t261, t262, t263)) else (some (wrap64 ((t261.size : Int) - t262), t261, t262, t263))) = some (r1, r2, r3, r4) := H
 have A2 := Aside0.mk A20
 clear A20
 by_cases c3 : t260 = true
 ·subst c3
  have H1 : (some (0, t261, t262, t263)) = some (r1, r2, r3, r4) := by rw [if_pos rfl] at H; exact H
  clear H
  have H := H1
  clear H1
  simp only [Option.some.injEq, Prod.mk.injEq] at H
  obtain ⟨rfl, rfl, rfl, rfl⟩ := H
  go_enter Tryz.func56, Tryz.ntmps56
  go_wp2_with (first | (go_at_call 70; (with_reducible refine (pack_Reader_fails.calls g s0_0 s0_1 s0_2 true t261 t262 t263 w0 _ ?side1 ?side2 A2.out).mono ?_); (case side1 => repeat (((with_reducible (exact HI0.out))))); (case side2 => repeat (((with_reducible (exact HB.out))))); rintro e w4 ⟨rfl, hi, hb, hk⟩; have n0_ := Aside0.mk (KeepBut.trans (by repeat (((with_reducible (exact HK.out))))) hk (.inl rfl)); have n1_ := Aside0.mk (hb); have n2_ := Aside0.mk (hi); clear HK; clear HB; clear HI0; have HK := n0_; have HB := n1_; have HI0 := n2_; clear n0_ n1_ n2_; (try clear hb); (try clear hb2); (try clear hk); (try clear hi)))
  repeat (go_quiet (fail); try go_wp2_with (fail))
  go_ret
  exact ⟨by (rfl), by repeat (((with_reducible (exact HI0.out)))), by repeat (((with_reducible (exact HB.out)))), by repeat (((with_reducible (exact HK.out))))⟩
 ·replace c3 := Bool.eq_false_iff.mpr c3
  subst c3
  have H1 : (some (wrap64 ((t261.size : Int) - t262), t261, t262, t263)) = some (r1, r2, r3, r4) := by rw [if_neg (show ¬ (false = true) by decide)] at H; exact H
  clear H
  have H := H1
  clear H1
  simp only [Option.some.injEq, Prod.mk.injEq] at H
  obtain ⟨rfl, rfl, rfl, rfl⟩ := H
  go_enter Tryz.func56, Tryz.ntmps56
  go_wp2_with (first | (go_at_call 70; (with_reducible refine (pack_Reader_fails.calls g s0_0 s0_1 s0_2 false t261 t262 t263 w0 _ ?side1 ?side2 A2.out).mono ?_); (case side1 => repeat (((with_reducible (exact HI0.out))))); (case side2 => repeat (((with_reducible (exact HB.out))))); rintro e w5 ⟨rfl, hi, hb, hk⟩; have n0_ := Aside0.mk (KeepBut.trans (by repeat (((with_reducible (exact HK.out))))) hk (.inl rfl)); have n1_ := Aside0.mk (hb); have n2_ := Aside0.mk (hi); clear HK; clear HB; clear HI0; have HK := n0_; have HB := n1_; have HI0 := n2_; clear n0_ n1_ n2_; (try clear hb); (try clear hb2); (try clear hk); (try clear hi); obtain ⟨HGz6, hgz6⟩ := HI0.out; have hcz6_0 := cellS125_0 HGz6; have hcz6_1 := cellS125_1 HGz6; have hcz6_2 := cellS125_2 HGz6; have hfz6_0 := blk_frozen HGz6 0; have hfz6_1 := blk_frozen HGz6 1; have hfz6_2 := blk_frozen HGz6 2; clear HGz6 hgz6))
  repeat (go_quiet (fail); try go_wp2_with (fail))
  go_ret
  exact ⟨by (rfl), by repeat (((with_reducible first | exact HI0.out | apply IsS125.drewN ))), by repeat (((with_reducible first | exact HB.out | apply pw_below_drewN ))), by repeat (((with_reducible first | exact HK.out | apply keep_drewN )))⟩

end Go.Proofs.YtofdpgcnconibaaGreatDoor.PA
