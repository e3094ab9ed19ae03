-- WRITTEN BY a program of this session (pp.sh)
import Derived.Test.YtppkdmocbhodpaaPAx0
import Derived.Test.YtppkdmocbhodpaaPAx6
import Derived.Test.YtppkdmocbhodpaaPAx7
namespace Go.Proofs.Ytppkdmocbhodpaa.PA
open Go.RowKit Go.Proofs.YtppkdmocbhodpaaW.PrintWords Go.Proofs.YtppkdmocbhodpaaW.PrintLast Go.Proofs.YtppkdmocbhodpaaW.PrintMore Go.Proofs.Ytppkdmocbhodpaa.Plain
attribute [local go_sem] max2_int min2_int max_two min_two max_three min_three max_four min_four   -- for this text's walks alone
set_option linter.unusedVariables false
set_option linter.unusedSimpArgs false

/-! ### pack_Reader_End: function 27, by hand -/
def pack_Reader_End.f (s : ByteArray) (at_ err : Int) : Option (Int × ByteArray × Int × Int) :=
  if err = 0 ∧ at_ < (s.size : Int) then some (22, s, at_, err) else some (err, s, at_, err)
set_option maxHeartbeats 1000000 in
theorem pack_Reader_End.fails (g : Nat) (s : ByteArray) (at_ err : Int) (w0 W : World) (hI : IsS63 w0 W g s at_ err) (b : Bool) (hb : (err != 0) = b) :
    Calls Try.prog 39 #[.pointer (some ⟨g, 0, none⟩)] W fun e w' => e = .returned (.bool b) ∧ w' = W := by
  obtain ⟨HG, hg⟩ := hI
  have hc2 := cellS63_2 HG
  have hf2 := blk_frozen HG 2
  clear HG hg
  cases b
  · go_enter Try.func39, Try.ntmps39
    go_wp2
    go_ret
    exact ⟨rfl, rfl⟩
  · go_enter Try.func39, Try.ntmps39
    go_wp2
    go_ret
    exact ⟨rfl, rfl⟩
set_option maxHeartbeats 1000000 in
set_option maxRecDepth 100000 in
theorem pack_Reader_End.calls (g : Nat) (s0_0 : ByteArray) (s0_1 s0_2 : Int) (r1 : Int) (r2 : ByteArray) (r3 r4 : Int) (w0 w : World) (hI : IsS63 w0 w g s0_0 s0_1 s0_2) (hB : Below w0.heap.size w0 w)
   (h : pack_Reader_End.f s0_0 s0_1 s0_2 = some (r1, r2, r3, r4)) :
    Calls Try.prog 27 #[.pointer (some ⟨g, 0, none⟩)] w fun e w' => e = .returned (.int .i64 r1) ∧ IsS63 w0 w' g r2 r3 r4 ∧ Below w0.heap.size w0 w' ∧ KeepBut w w' g none := by
  unfold pack_Reader_End.f at h
  have HI0 := Aside0.mk hI
  have HB := Aside0.mk hB
  obtain ⟨HG, hg⟩ := hI
  have hc0 := cellS63_0 HG
  have hc1 := cellS63_1 HG
  have hc2 := cellS63_2 HG
  have hf0 := blk_frozen HG 0
  have hf1 := blk_frozen HG 1
  have hf2 := blk_frozen HG 2
  clear HG hg hB
  by_cases c : s0_2 = 0 ∧ s0_1 < (s0_0.size : Int)
  · rw [if_pos c] at h
    obtain ⟨rfl, rfl, rfl, rfl⟩ : 22 = r1 ∧ s0_0 = r2 ∧ s0_1 = r3 ∧ s0_2 = r4 := by simpa using h
    obtain ⟨c0, c1⟩ := c
    have e0 : (s0_2 == 0) = true := beq_iff_eq.mpr c0
    have HE : Aside0 ((s0_2 != 0) = false) := ⟨by simp [c0]⟩
    have e2 : decide (s0_1 < (s0_0.size : Int)) = true := decide_eq_true c1
    clear c0 c1 h
    go_enter Try.func27, Try.ntmps27
    go_wp2
    go_quiet ((go_at_call 39; exact Calls.quiet_of_same (pack_Reader_End.fails g s0_0 s0_1 s0_2 w0 _ (HI0.out.drewN _) _ HE.out)))
    go_wp2
    go_ret
    exact ⟨rfl, HI0.out.drewN _, pw_below_drewN HB.out _, keep_drewN (KeepBut.refl w g none) _⟩
  · rw [if_neg c] at h
    obtain ⟨rfl, rfl, rfl, rfl⟩ : s0_2 = r1 ∧ s0_0 = r2 ∧ s0_1 = r3 ∧ s0_2 = r4 := by simpa using h
    clear h
    by_cases c0 : s0_2 = 0
    · have c1 : ¬ s0_1 < (s0_0.size : Int) := fun h => c ⟨c0, h⟩
      have e0 : (s0_2 == 0) = true := beq_iff_eq.mpr c0
      have HE : Aside0 ((s0_2 != 0) = false) := ⟨by simp [c0]⟩
      have e2 : decide (s0_1 < (s0_0.size : Int)) = false := decide_eq_false c1
      clear c0 c1 c
      go_enter Try.func27, Try.ntmps27
      go_wp2
      go_quiet ((go_at_call 39; exact Calls.quiet_of_same (pack_Reader_End.fails g s0_0 s0_1 s0_2 w0 _ (HI0.out.drewN _) _ HE.out)))
      go_wp2
      go_ret
      exact ⟨rfl, HI0.out.drewN _, pw_below_drewN HB.out _, keep_drewN (KeepBut.refl w g none) _⟩
    · have e0 : (s0_2 == 0) = false := beq_eq_false_iff_ne.mpr c0
      have HE : Aside0 ((s0_2 != 0) = true) := ⟨bne_iff_ne.mpr c0⟩
      clear c0 c
      go_enter Try.func27, Try.ntmps27
      go_wp2
      go_quiet ((go_at_call 39; exact Calls.quiet_of_same (pack_Reader_End.fails g s0_0 s0_1 s0_2 w0 _ (HI0.out.drewN _) _ HE.out)))
      go_wp2
      go_ret
      exact ⟨rfl, HI0.out.drewN _, pw_below_drewN HB.out _, keep_drewN (KeepBut.refl w g none) _⟩


/-! ### pack_Reader_Byte: function 30 -/
def pack_Reader_Byte.f (s0_0 : ByteArray) (s0_1 : Int) (s0_2 : Int) : Option (Int × ByteArray × Int × Int) := (pack_Reader_take.f s0_0 s0_1 s0_2 1).bind fun bt130 => (if bt130.1.toList = ([] : List UInt8) then (some (0, bt130.2.1, bt130.2.2.1, bt130.2.2.2)) else (if 0 < (bt130.1.size : Int) then (some (bt bt130.1 0, bt130.2.1, bt130.2.2.1, bt130.2.2.2)) else (none)))
set_option maxHeartbeats 8000000 in
set_option maxRecDepth 100000 in
theorem pack_Reader_Byte.calls (g : Nat) (s0_0 : ByteArray) (s0_1 : Int) (s0_2 : Int) (r1 : Int) (r2 : ByteArray) (r3 : Int) (r4 : Int) (w0 w : World) (hI : IsS63 w0 w g s0_0 s0_1 s0_2) (hB : Below w0.heap.size w0 w) (h : pack_Reader_Byte.f s0_0 s0_1 s0_2 = some (r1, r2, r3, r4)) :
  Calls Try.prog 30 #[.pointer (some ⟨g, 0, none⟩)] w fun e w' => e = .returned (.int .u8 r1) ∧ IsS63 w0 w' g r2 r3 r4 ∧ Below w0.heap.size w0 w' ∧ KeepBut w w' g none := by
 have HI0 := Aside0.mk hI
 have HK := Aside0.mk (KeepBut.refl w g none)
 have HL := Aside0.mk hB.size
 clear hI
 have HW0 := Aside0.mk hB.size
 have HB := Aside0.mk hB
 clear hB
 have H : ((pack_Reader_take.f s0_0 s0_1 s0_2 1).bind fun bt130 => (if bt130.1.toList = ([] : List UInt8) then (some (0, bt130.2.1, bt130.2.2.1, bt130.2.2.2)) else (if 0 < (bt130.1.size : Int) then (some (bt bt130.1 0, bt130.2.1, bt130.2.2.1, bt130.2.2.2)) else (none)))) = some (r1, r2, r3, r4) := h
 clear h
 replace H := Option.bind_eq_some_iff.mp H
 obtain ⟨⟨t130, t131, t132, t133⟩, A20, H⟩ := H
 replace H : (if t130.toList = ([] : List UInt8) then (some (0, t131, t132, t133)) else (if 0 < (t130.size : Int) then (some (bt t130 0, t131, t132, t133)) else (none))) = some (r1, r2, r3, r4) := H
 have A2 := Aside0.mk A20
 clear A20
 by_cases c3 : t130.toList = ([] : List UInt8)
 ·rw [if_pos c3] at H
  have c3b0 : (t130.toList == ([] : List UInt8)) = true := beq_iff_eq.mpr c3
  have c3b1 : (t130.toList != ([] : List UInt8)) = false := bne_eq_false_iff_eq.mpr c3
  clear c3
  simp only [Option.some.injEq, Prod.mk.injEq] at H
  obtain ⟨rfl, rfl, rfl, rfl⟩ := H
  go_enter Try.func30, Try.ntmps30
  go_wp2_with (first | ((with_reducible refine gate_callee (f := 38) rfl ?_); refine goesL_ (some 5) rfl rfl Try.func38 (by kernel_rfl) rfl #[.pointer (some ⟨g, 0, none⟩), .int .i64 1] rfl (by (try simp only [List.map_toArray, List.map_cons, List.map_nil]); first | done | rfl | (simp only [List.length_drop, List.length_take]; rfl)) ?_; (with_reducible refine (pack_Reader_take.calls g s0_0 s0_1 s0_2 1 t130 t131 t132 t133 w0 _ ?side1 ?side2 A2.out).mono ?_); (case side1 => repeat (first | (with_reducible first | exact HI0.out | apply IsS63.alloc | apply IsS63.drewN | apply IsS63.drew | apply IsS63.set_0 | apply IsS63.set_1 | apply IsS63.set_2) | exact HI0.out)); (case side2 => repeat (first | (with_reducible first | exact HB.out | apply below_alloc | apply pw_below_drewN | apply below_drew1 | refine below_set ?_ (IsS63.ge HI0.out)) | exact HB.out)); rintro e w4 ⟨rfl, hi, hb, hk⟩; refine ⟨_, rfl, ?_⟩; have n0_ := Aside0.mk (KeepBut.trans (by repeat (first | (with_reducible first | exact HK.out | apply KeepBut.set_ | apply keep_drewN | apply keep_drew | apply keep_alloc) | exact HK.out)) hk (.inl rfl)); have n1_ := Aside0.mk (hb); have n2_ := Aside0.mk (hi); clear HK; clear HB; clear HI0; have HK := n0_; have HB := n1_; have HI0 := n2_; clear n0_ n1_ n2_; (try clear hb); (try clear hb2); (try clear hk); (try clear hi)))
  go_ret
  exact ⟨by first | rfl | (simp [errW_none, errW_some] <;> rfl) | (simp [*, errW_none, errW_some] <;> rfl), by repeat (first | (with_reducible first | exact HI0.out | apply IsS63.alloc | apply IsS63.drewN | apply IsS63.drew | apply IsS63.set_0 | apply IsS63.set_1 | apply IsS63.set_2) | exact HI0.out), by repeat (first | (with_reducible first | exact HB.out | apply below_alloc | apply pw_below_drewN | apply below_drew1 | refine below_set ?_ (IsS63.ge HI0.out)) | exact HB.out), by repeat (first | (with_reducible first | exact HK.out | apply KeepBut.set_ | apply keep_drewN | apply keep_drew | apply keep_alloc) | exact HK.out)⟩
 ·rw [if_neg c3] at H
  have c3b0 : (t130.toList == ([] : List UInt8)) = false := beq_eq_false_iff_ne.mpr c3
  have c3b1 : (t130.toList != ([] : List UInt8)) = true := bne_iff_ne.mpr c3
  by_cases c5 : 0 < (t130.size : Int)
  ·rw [if_pos c5] at H
   have c5b0 : decide (0 < (t130.size : Int)) = true := decide_eq_true c5
   have c5b1 : decide (0 < t130.size) = true := decide_eq_true (by omega)
   clear c5
   simp only [Option.some.injEq, Prod.mk.injEq] at H
   obtain ⟨rfl, rfl, rfl, rfl⟩ := H
   go_enter Try.func30, Try.ntmps30
   go_wp2_with (first | ((with_reducible refine gate_callee (f := 38) rfl ?_); refine goesL_ (some 5) rfl rfl Try.func38 (by kernel_rfl) rfl #[.pointer (some ⟨g, 0, none⟩), .int .i64 1] rfl (by (try simp only [List.map_toArray, List.map_cons, List.map_nil]); first | done | rfl | (simp only [List.length_drop, List.length_take]; rfl)) ?_; (with_reducible refine (pack_Reader_take.calls g s0_0 s0_1 s0_2 1 t130 t131 t132 t133 w0 _ ?side1 ?side2 A2.out).mono ?_); (case side1 => repeat (first | (with_reducible first | exact HI0.out | apply IsS63.alloc | apply IsS63.drewN | apply IsS63.drew | apply IsS63.set_0 | apply IsS63.set_1 | apply IsS63.set_2) | exact HI0.out)); (case side2 => repeat (first | (with_reducible first | exact HB.out | apply below_alloc | apply pw_below_drewN | apply below_drew1 | refine below_set ?_ (IsS63.ge HI0.out)) | exact HB.out)); rintro e w7 ⟨rfl, hi, hb, hk⟩; refine ⟨_, rfl, ?_⟩; have n0_ := Aside0.mk (KeepBut.trans (by repeat (first | (with_reducible first | exact HK.out | apply KeepBut.set_ | apply keep_drewN | apply keep_drew | apply keep_alloc) | exact HK.out)) hk (.inl rfl)); have n1_ := Aside0.mk (hb); have n2_ := Aside0.mk (hi); clear HK; clear HB; clear HI0; have HK := n0_; have HB := n1_; have HI0 := n2_; clear n0_ n1_ n2_; (try clear hb); (try clear hb2); (try clear hk); (try clear hi); have p6 : 0 ≤ (0 : Int) := (by omega); have q6 : 0 < t130.size := (by have : (0 : Int) < (t130.size : Int) := of_decide_eq_true (by first | (with_reducible assumption) | assumption); omega); have hx6 : ∀ h : 0 < t130.size, ((t130[0]'h).toNat : Int) = bt t130 0 := bt_at t130 0; clear p6; have qi6 : (0 < (t130.size : Int)) = True := eq_true (of_decide_eq_true (by first | (with_reducible assumption) | assumption)); replace q6 := eq_true q6))
   go_ret
   exact ⟨by first | rfl | (simp [errW_none, errW_some] <;> rfl) | (simp [*, errW_none, errW_some] <;> rfl), by repeat (first | (with_reducible first | exact HI0.out | apply IsS63.alloc | apply IsS63.drewN | apply IsS63.drew | apply IsS63.set_0 | apply IsS63.set_1 | apply IsS63.set_2) | exact HI0.out), by repeat (first | (with_reducible first | exact HB.out | apply below_alloc | apply pw_below_drewN | apply below_drew1 | refine below_set ?_ (IsS63.ge HI0.out)) | exact HB.out), by repeat (first | (with_reducible first | exact HK.out | apply KeepBut.set_ | apply keep_drewN | apply keep_drew | apply keep_alloc) | exact HK.out)⟩
  ·rw [if_neg c5] at H
   exact absurd H (by simp)

end Go.Proofs.Ytppkdmocbhodpaa.PA
