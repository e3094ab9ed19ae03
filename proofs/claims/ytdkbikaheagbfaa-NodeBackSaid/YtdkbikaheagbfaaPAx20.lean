-- WRITTEN BY a program of this session (pp.sh)
import Derived.Test.YtdkbikaheagbfaaPAx0
import Derived.Test.YtdkbikaheagbfaaPAx17
namespace Go.Proofs.Ytdkbikaheagbfaa.PA
open Go.RowKit Go.Proofs.YtdkbikaheagbfaaW.PrintWords Go.Proofs.YtdkbikaheagbfaaW.PrintLast Go.Proofs.YtdkbikaheagbfaaW.PrintMore Go.Proofs.Ytdkbikaheagbfaa.Plain
attribute [local go_sem] max2_int min2_int max_two min_two max_three min_three max_four min_four binOp_leq_s binOp_gtr_s binOp_geq_s lit_byte   -- for this text's walks alone
set_option linter.unusedVariables false
set_option linter.unusedSimpArgs false

/-! ### pack_Reader_End: function 43, by hand -/
def pack_Reader_End.f (s : ByteArray) (at_ err : Int) : Option (Int × ByteArray × Int × Int) :=
  if err = 0 ∧ at_ < (s.size : Int) then some (22, s, at_, err) else some (err, s, at_, err)
set_option maxHeartbeats 1000000 in
theorem pack_Reader_End.fails (g : Nat) (s : ByteArray) (at_ err : Int) (w0 W : World) (hI : IsS100 w0 W g s at_ err) (b : Bool) (hb : (err != 0) = b) :
    Calls Try.prog 71 #[.pointer (some ⟨g, 0, none⟩)] W fun e w' => e = .returned (.bool b) ∧ w' = W := by
  obtain ⟨HG, hg⟩ := hI
  have hc2 := cellS100_2 HG
  have hf2 := blk_frozen HG 2
  clear HG hg
  cases b
  · go_enter Try.func71, Try.ntmps71
    go_wp2
    go_ret
    exact ⟨rfl, rfl⟩
  · go_enter Try.func71, Try.ntmps71
    go_wp2
    go_ret
    exact ⟨rfl, rfl⟩
set_option maxHeartbeats 1000000 in
set_option maxRecDepth 100000 in
theorem pack_Reader_End.calls (g : Nat) (s0_0 : ByteArray) (s0_1 s0_2 : Int) (r1 : Int) (r2 : ByteArray) (r3 r4 : Int) (w0 w : World) (hI : IsS100 w0 w g s0_0 s0_1 s0_2) (hB : Below w0.heap.size w0 w)
   (h : pack_Reader_End.f s0_0 s0_1 s0_2 = some (r1, r2, r3, r4)) :
    Calls Try.prog 43 #[.pointer (some ⟨g, 0, none⟩)] w fun e w' => e = .returned (.int .i64 r1) ∧ IsS100 w0 w' g r2 r3 r4 ∧ Below w0.heap.size w0 w' ∧ KeepBut w w' g none := by
  unfold pack_Reader_End.f at h
  have HI0 := Aside0.mk hI
  have HB := Aside0.mk hB
  obtain ⟨HG, hg⟩ := hI
  have hc0 := cellS100_0 HG
  have hc1 := cellS100_1 HG
  have hc2 := cellS100_2 HG
  have hf0 := blk_frozen HG 0
  have hf1 := blk_frozen HG 1
  have hf2 := blk_frozen HG 2
  clear HG hg hB
  by_cases c : s0_2 = 0 ∧ s0_1 < (s0_0.size : Int)
  · rw [if_pos c] at h
    obtain ⟨rfl, rfl, rfl, rfl⟩ : 22 = r1 ∧ s0_0 = r2 ∧ s0_1 = r3 ∧ s0_2 = r4 := by simpa using h
    obtain ⟨c0, c1⟩ := c
    have e0 : (s0_2 == 0) = true := beq_iff_eq.mpr c0
    have HE : Aside0 ((s0_2 != 0) = false) := ⟨by simp [c0]⟩
    have e2 : decide (s0_1 < (s0_0.size : Int)) = true := decide_eq_true c1
    clear c0 c1 h
    go_enter Try.func43, Try.ntmps43
    go_wp2
    go_quiet ((go_at_call 71; exact Calls.quiet_of_same (pack_Reader_End.fails g s0_0 s0_1 s0_2 w0 _ (HI0.out.drewN _) _ HE.out)))
    go_wp2
    go_ret
    exact ⟨rfl, HI0.out.drewN _, pw_below_drewN HB.out _, keep_drewN (KeepBut.refl w g none) _⟩
  · rw [if_neg c] at h
    obtain ⟨rfl, rfl, rfl, rfl⟩ : s0_2 = r1 ∧ s0_0 = r2 ∧ s0_1 = r3 ∧ s0_2 = r4 := by simpa using h
    clear h
    by_cases c0 : s0_2 = 0
    · have c1 : ¬ s0_1 < (s0_0.size : Int) := fun h => c ⟨c0, h⟩
      have e0 : (s0_2 == 0) = true := beq_iff_eq.mpr c0
      have HE : Aside0 ((s0_2 != 0) = false) := ⟨by simp [c0]⟩
      have e2 : decide (s0_1 < (s0_0.size : Int)) = false := decide_eq_false c1
      clear c0 c1 c
      go_enter Try.func43, Try.ntmps43
      go_wp2
      go_quiet ((go_at_call 71; exact Calls.quiet_of_same (pack_Reader_End.fails g s0_0 s0_1 s0_2 w0 _ (HI0.out.drewN _) _ HE.out)))
      go_wp2
      go_ret
      exact ⟨rfl, HI0.out.drewN _, pw_below_drewN HB.out _, keep_drewN (KeepBut.refl w g none) _⟩
    · have e0 : (s0_2 == 0) = false := beq_eq_false_iff_ne.mpr c0
      have HE : Aside0 ((s0_2 != 0) = true) := ⟨bne_iff_ne.mpr c0⟩
      clear c0 c
      go_enter Try.func43, Try.ntmps43
      go_wp2
      go_quiet ((go_at_call 71; exact Calls.quiet_of_same (pack_Reader_End.fails g s0_0 s0_1 s0_2 w0 _ (HI0.out.drewN _) _ HE.out)))
      go_wp2
      go_ret
      exact ⟨rfl, HI0.out.drewN _, pw_below_drewN HB.out _, keep_drewN (KeepBut.refl w g none) _⟩


end Go.Proofs.Ytdkbikaheagbfaa.PA
