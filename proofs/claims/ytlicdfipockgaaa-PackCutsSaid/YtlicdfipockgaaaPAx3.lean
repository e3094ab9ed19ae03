-- WRITTEN BY a program of this session (pp.sh)
import Derived.Test.YtlicdfipockgaaaPAx0
import Derived.Test.YtlicdfipockgaaaPAx1
import Derived.Test.YtlicdfipockgaaaPAx2
namespace Go.Proofs.Ytlicdfipockgaaa.PA
open Go.RowKit Go.Proofs.YtlicdfipockgaaaW.PrintWords Go.Proofs.YtlicdfipockgaaaW.PrintLast Go.Proofs.YtlicdfipockgaaaW.PrintMore Go.Proofs.Ytlicdfipockgaaa.Plain
attribute [local go_sem] max2_int min2_int max_two min_two max_three min_three max_four min_four   -- for this text's walks alone
set_option linter.unusedVariables false
set_option linter.unusedSimpArgs false

/-! ### pack_Reader_End: function 29, by hand -/
def pack_Reader_End.f (s : ByteArray) (at_ err : Int) : Option (Int × ByteArray × Int × Int) :=
  if err = 0 ∧ at_ < (s.size : Int) then some (22, s, at_, err) else some (err, s, at_, err)
set_option maxHeartbeats 1000000 in
theorem pack_Reader_End.fails (g : Nat) (s : ByteArray) (at_ err : Int) (w0 W : World) (hI : IsS54 w0 W g s at_ err) (b : Bool) (hb : (err != 0) = b) :
    Calls Try.prog 31 #[.pointer (some ⟨g, 0, none⟩)] W fun e w' => e = .returned (.bool b) ∧ w' = W := by
  obtain ⟨HG, hg⟩ := hI
  have hc2 := cellS54_2 HG
  have hf2 := blk_frozen HG 2
  clear HG hg
  cases b
  · go_enter Try.func31, Try.ntmps31
    go_wp2
    go_ret
    exact ⟨rfl, rfl⟩
  · go_enter Try.func31, Try.ntmps31
    go_wp2
    go_ret
    exact ⟨rfl, rfl⟩
set_option maxHeartbeats 1000000 in
set_option maxRecDepth 100000 in
theorem pack_Reader_End.calls (g : Nat) (s0_0 : ByteArray) (s0_1 s0_2 : Int) (r1 : Int) (r2 : ByteArray) (r3 r4 : Int) (w0 w : World) (hI : IsS54 w0 w g s0_0 s0_1 s0_2) (hB : Below w0.heap.size w0 w)
   (h : pack_Reader_End.f s0_0 s0_1 s0_2 = some (r1, r2, r3, r4)) :
    Calls Try.prog 29 #[.pointer (some ⟨g, 0, none⟩)] w fun e w' => e = .returned (.int .i64 r1) ∧ IsS54 w0 w' g r2 r3 r4 ∧ Below w0.heap.size w0 w' ∧ KeepBut w w' g none := by
  unfold pack_Reader_End.f at h
  have HI0 := Aside0.mk hI
  have HB := Aside0.mk hB
  obtain ⟨HG, hg⟩ := hI
  have hc0 := cellS54_0 HG
  have hc1 := cellS54_1 HG
  have hc2 := cellS54_2 HG
  have hf0 := blk_frozen HG 0
  have hf1 := blk_frozen HG 1
  have hf2 := blk_frozen HG 2
  clear HG hg hB
  by_cases c : s0_2 = 0 ∧ s0_1 < (s0_0.size : Int)
  · rw [if_pos c] at h
    obtain ⟨rfl, rfl, rfl, rfl⟩ : 22 = r1 ∧ s0_0 = r2 ∧ s0_1 = r3 ∧ s0_2 = r4 := by simpa using h
    obtain ⟨c0, c1⟩ := c
    have e0 : (s0_2 == 0) = true := beq_iff_eq.mpr c0
    have HE : Aside0 ((s0_2 != 0) = false) := ⟨by simp [c0]⟩
    have e2 : decide (s0_1 < (s0_0.size : Int)) = true := decide_eq_true c1
    clear c0 c1 h
    go_enter Try.func29, Try.ntmps29
    go_wp2
    go_quiet ((go_at_call 31; exact Calls.quiet_of_same (pack_Reader_End.fails g s0_0 s0_1 s0_2 w0 _ (HI0.out.drewN _) _ HE.out)))
    go_wp2
    go_ret
    exact ⟨rfl, HI0.out.drewN _, pw_below_drewN HB.out _, keep_drewN (KeepBut.refl w g none) _⟩
  · rw [if_neg c] at h
    obtain ⟨rfl, rfl, rfl, rfl⟩ : s0_2 = r1 ∧ s0_0 = r2 ∧ s0_1 = r3 ∧ s0_2 = r4 := by simpa using h
    clear h
    by_cases c0 : s0_2 = 0
    · have c1 : ¬ s0_1 < (s0_0.size : Int) := fun h => c ⟨c0, h⟩
      have e0 : (s0_2 == 0) = true := beq_iff_eq.mpr c0
      have HE : Aside0 ((s0_2 != 0) = false) := ⟨by simp [c0]⟩
      have e2 : decide (s0_1 < (s0_0.size : Int)) = false := decide_eq_false c1
      clear c0 c1 c
      go_enter Try.func29, Try.ntmps29
      go_wp2
      go_quiet ((go_at_call 31; exact Calls.quiet_of_same (pack_Reader_End.fails g s0_0 s0_1 s0_2 w0 _ (HI0.out.drewN _) _ HE.out)))
      go_wp2
      go_ret
      exact ⟨rfl, HI0.out.drewN _, pw_below_drewN HB.out _, keep_drewN (KeepBut.refl w g none) _⟩
    · have e0 : (s0_2 == 0) = false := beq_eq_false_iff_ne.mpr c0
      have HE : Aside0 ((s0_2 != 0) = true) := ⟨bne_iff_ne.mpr c0⟩
      clear c0 c
      go_enter Try.func29, Try.ntmps29
      go_wp2
      go_quiet ((go_at_call 31; exact Calls.quiet_of_same (pack_Reader_End.fails g s0_0 s0_1 s0_2 w0 _ (HI0.out.drewN _) _ HE.out)))
      go_wp2
      go_ret
      exact ⟨rfl, HI0.out.drewN _, pw_below_drewN HB.out _, keep_drewN (KeepBut.refl w g none) _⟩


/-! ### coppicelaw02_awake: function 10 -/
def coppicelaw02_awake.f  : Option (Bool) := (pack_Read.f (⟨#[128, 1]⟩ : ByteArray)).bind fun bt102 => ((pack_Short.f 128).bind fun t106 => (if t106.toList = ([128, 1] : List UInt8) then ((pack_Fixed.f 1).bind fun t107 => (if t107.toList = ([0, 0, 0, 0, 0, 0, 0, 1] : List UInt8) then ((pack_Reader_Short.f bt102.1 bt102.2.1 bt102.2.2).bind fun bt108 => (if bt108.1 = 128 then ((pack_Reader_End.f bt108.2.1 bt108.2.2.1 bt108.2.2.2).bind fun bt112 => (some (bt112.1 == 0))) else (some false))) else (some false))) else (some false)))
set_option maxHeartbeats 8000000 in
set_option maxRecDepth 100000 in
theorem coppicelaw02_awake.calls  (r : Bool) (w : World) (h : coppicelaw02_awake.f  = some r) :
    Calls Try.prog 10 #[] w fun e w' => e = .returned (.bool r) ∧ Below w.heap.size w w' := by
  have HB := Aside0.mk (Below.refl w.heap.size w)
  have H : ((pack_Read.f (⟨#[128, 1]⟩ : ByteArray)).bind fun bt102 => ((pack_Short.f 128).bind fun t106 => (if t106.toList = ([128, 1] : List UInt8) then ((pack_Fixed.f 1).bind fun t107 => (if t107.toList = ([0, 0, 0, 0, 0, 0, 0, 1] : List UInt8) then ((pack_Reader_Short.f bt102.1 bt102.2.1 bt102.2.2).bind fun bt108 => (if bt108.1 = 128 then ((pack_Reader_End.f bt108.2.1 bt108.2.2.1 bt108.2.2.2).bind fun bt112 => (some (bt112.1 == 0))) else (some false))) else (some false))) else (some false)))) = some r := h
  clear h
  replace H := Option.bind_eq_some_iff.mp H
  obtain ⟨⟨t102, t103, t104⟩, A10, H⟩ := H
  replace H : ((pack_Short.f 128).bind fun t106 => (if t106.toList = ([128, 1] : List UInt8) then ((pack_Fixed.f 1).bind fun t107 => (if t107.toList = ([0, 0, 0, 0, 0, 0, 0, 1] : List UInt8) then ((pack_Reader_Short.f t102 t103 t104).bind fun bt108 => (if bt108.1 = 128 then ((pack_Reader_End.f bt108.2.1 bt108.2.2.1 bt108.2.2.2).bind fun bt112 => (some (bt112.1 == 0))) else (some false))) else (some false))) else (some false))) = some r := H
  have A1 := Aside0.mk A10
  clear A10
  replace H := Option.bind_eq_some_iff.mp H
  obtain ⟨t106, A20, H⟩ := H
  replace H : (if t106.toList = ([128, 1] : List UInt8) then ((pack_Fixed.f 1).bind fun t107 => (if t107.toList = ([0, 0, 0, 0, 0, 0, 0, 1] : List UInt8) then ((pack_Reader_Short.f t102 t103 t104).bind fun bt108 => (if bt108.1 = 128 then ((pack_Reader_End.f bt108.2.1 bt108.2.2.1 bt108.2.2.2).bind fun bt112 => (some (bt112.1 == 0))) else (some false))) else (some false))) else (some false)) = some r := H
  have A2 := Aside0.mk A20
  clear A20
  by_cases c3 : t106.toList = ([128, 1] : List UInt8)
  · rw [if_pos c3] at H
    have c3b0 : (t106.toList == ([128, 1] : List UInt8)) = true := beq_iff_eq.mpr c3
    have c3b1 : (t106.toList != ([128, 1] : List UInt8)) = false := bne_eq_false_iff_eq.mpr c3
    clear c3
    replace H := Option.bind_eq_some_iff.mp H
    obtain ⟨t107, A40, H⟩ := H
    replace H : (if t107.toList = ([0, 0, 0, 0, 0, 0, 0, 1] : List UInt8) then ((pack_Reader_Short.f t102 t103 t104).bind fun bt108 => (if bt108.1 = 128 then ((pack_Reader_End.f bt108.2.1 bt108.2.2.1 bt108.2.2.2).bind fun bt112 => (some (bt112.1 == 0))) else (some false))) else (some false)) = some r := H
    have A4 := Aside0.mk A40
    clear A40
    by_cases c5 : t107.toList = ([0, 0, 0, 0, 0, 0, 0, 1] : List UInt8)
    · rw [if_pos c5] at H
      have c5b0 : (t107.toList == ([0, 0, 0, 0, 0, 0, 0, 1] : List UInt8)) = true := beq_iff_eq.mpr c5
      have c5b1 : (t107.toList != ([0, 0, 0, 0, 0, 0, 0, 1] : List UInt8)) = false := bne_eq_false_iff_eq.mpr c5
      clear c5
      replace H := Option.bind_eq_some_iff.mp H
      obtain ⟨⟨t108, t109, t110, t111⟩, A60, H⟩ := H
      replace H : (if t108 = 128 then ((pack_Reader_End.f t109 t110 t111).bind fun bt112 => (some (bt112.1 == 0))) else (some false)) = some r := H
      have A6 := Aside0.mk A60
      clear A60
      by_cases c7 : t108 = 128
      · rw [if_pos c7] at H
        have c7b0 : (t108 == 128) = true := beq_iff_eq.mpr c7
        have c7b1 : (t108 != 128) = false := bne_eq_false_iff_eq.mpr c7
        clear c7
        replace H := Option.bind_eq_some_iff.mp H
        obtain ⟨⟨t112, t113, t114, t115⟩, A80, H⟩ := H
        replace H : (some (t112 == 0)) = some r := H
        have A8 := Aside0.mk A80
        clear A80
        obtain rfl := Option.some.inj H
        go_enter Try.func10, Try.ntmps10
        go_wp2_with (first | ((with_reducible refine gate_callee (f := 17) rfl ?_); refine goesL_ (some 2) rfl rfl Try.func17 (by kernel_rfl) rfl #[.string (⟨#[128, 1]⟩ : ByteArray)] rfl (by (try simp only [List.map_toArray, List.map_cons, List.map_nil]); first | done | rfl | (simp only [List.length_drop, List.length_take]; rfl)) ?_; (with_reducible refine (pack_Read.calls (⟨#[128, 1]⟩ : ByteArray) t102 t103 t104 w _ ?side1 A1.out).mono ?_); (case side1 => repeat (first | (with_reducible first | exact HB.out | apply below_alloc | apply pw_below_drewN | apply below_drew1) | exact HB.out)); rintro e w9 ⟨g105, rfl, hi, hb, hb2⟩; refine ⟨_, rfl, ?_⟩; have n0_ := Aside0.mk (hb); have n1_ := Aside0.mk (hi); clear HB; have HB := n0_; have HI105 := n1_; clear n0_ n1_; (try clear hb); (try clear hb2); (try clear hk); (try clear hi)) | ((with_reducible refine gate_callee (f := 12) rfl ?_); refine goesL_ (some 3) rfl rfl Try.func12 (by kernel_rfl) rfl #[.int .u64 128] rfl (by (try simp only [List.map_toArray, List.map_cons, List.map_nil]); first | done | rfl | (simp only [List.length_drop, List.length_take]; rfl)) ?_; (with_reducible refine (pack_Short.calls 128 t106 _ A2.out).mono ?_); rintro e w10 ⟨rfl, hb⟩; refine ⟨_, rfl, ?_⟩; have n0_ := Aside0.mk (IsS54.below (by repeat (first | (with_reducible first | exact HI105.out | apply IsS54.alloc | apply IsS54.drewN | apply IsS54.drew | apply IsS54.set_0 | apply IsS54.set_1 | apply IsS54.set_2) | exact HI105.out)) hb); have n1_ := Aside0.mk (below_step (by repeat (first | (with_reducible first | exact HB.out | apply below_alloc | apply pw_below_drewN | apply below_drew1 | refine below_set ?_ (IsS54.ge HI105.out)) | exact HB.out)) hb); clear HI105; clear HB; have HI105 := n0_; have HB := n1_; clear n0_ n1_; (try clear hb); (try clear hb2); (try clear hk); (try clear hi)) | (go_at_call 11; (with_reducible refine (pack_Fixed.calls 1 t107 _ A4.out).mono ?_); rintro e w11 ⟨rfl, hb⟩; have n0_ := Aside0.mk (IsS54.below (by repeat (first | (with_reducible first | exact HI105.out | apply IsS54.alloc | apply IsS54.drewN | apply IsS54.drew | apply IsS54.set_0 | apply IsS54.set_1 | apply IsS54.set_2) | exact HI105.out)) hb); have n1_ := Aside0.mk (below_step (by repeat (first | (with_reducible first | exact HB.out | apply below_alloc | apply pw_below_drewN | apply below_drew1 | refine below_set ?_ (IsS54.ge HI105.out)) | exact HB.out)) hb); clear HI105; clear HB; have HI105 := n0_; have HB := n1_; clear n0_ n1_; (try clear hb); (try clear hb2); (try clear hk); (try clear hi)) | (go_at_call 18; (with_reducible refine (pack_Reader_Short.calls g105 t102 t103 t104 t108 t109 t110 t111 w _ ?side1 ?side2 A6.out).mono ?_); (case side1 => repeat (first | (with_reducible first | exact HI105.out | apply IsS54.alloc | apply IsS54.drewN | apply IsS54.drew | apply IsS54.set_0 | apply IsS54.set_1 | apply IsS54.set_2) | exact HI105.out)); (case side2 => repeat (first | (with_reducible first | exact HB.out | apply below_alloc | apply pw_below_drewN | apply below_drew1 | refine below_set ?_ (IsS54.ge HI105.out)) | exact HB.out)); rintro e w12 ⟨rfl, hi, hb, hk⟩; have n0_ := Aside0.mk (hb); have n1_ := Aside0.mk (hi); clear HB; clear HI105; have HB := n0_; have HI105 := n1_; clear n0_ n1_; (try clear hb); (try clear hb2); (try clear hk); (try clear hi)) | (go_at_call 29; (with_reducible refine (pack_Reader_End.calls g105 t109 t110 t111 t112 t113 t114 t115 w _ ?side1 ?side2 A8.out).mono ?_); (case side1 => repeat (first | (with_reducible first | exact HI105.out | apply IsS54.alloc | apply IsS54.drewN | apply IsS54.drew | apply IsS54.set_0 | apply IsS54.set_1 | apply IsS54.set_2) | exact HI105.out)); (case side2 => repeat (first | (with_reducible first | exact HB.out | apply below_alloc | apply pw_below_drewN | apply below_drew1 | refine below_set ?_ (IsS54.ge HI105.out)) | exact HB.out)); rintro e w13 ⟨rfl, hi, hb, hk⟩; have n0_ := Aside0.mk (hb); have n1_ := Aside0.mk (hi); clear HB; clear HI105; have HB := n0_; have HI105 := n1_; clear n0_ n1_; (try clear hb); (try clear hb2); (try clear hk); (try clear hi)))
        go_ret
        exact ⟨by first | rfl | (simp [errW_none, errW_some] <;> rfl) | (simp [*, errW_none, errW_some] <;> rfl), by repeat (first | (with_reducible first | exact HB.out | apply below_alloc | apply pw_below_drewN | apply below_drew1 | refine below_set ?_ (IsS54.ge HI105.out)) | exact HB.out)⟩
      · rw [if_neg c7] at H
        have c7b0 : (t108 == 128) = false := beq_eq_false_iff_ne.mpr c7
        have c7b1 : (t108 != 128) = true := bne_iff_ne.mpr c7
        obtain rfl := Option.some.inj H
        go_enter Try.func10, Try.ntmps10
        go_wp2_with (first | ((with_reducible refine gate_callee (f := 17) rfl ?_); refine goesL_ (some 2) rfl rfl Try.func17 (by kernel_rfl) rfl #[.string (⟨#[128, 1]⟩ : ByteArray)] rfl (by (try simp only [List.map_toArray, List.map_cons, List.map_nil]); first | done | rfl | (simp only [List.length_drop, List.length_take]; rfl)) ?_; (with_reducible refine (pack_Read.calls (⟨#[128, 1]⟩ : ByteArray) t102 t103 t104 w _ ?side1 A1.out).mono ?_); (case side1 => repeat (first | (with_reducible first | exact HB.out | apply below_alloc | apply pw_below_drewN | apply below_drew1) | exact HB.out)); rintro e w14 ⟨g105, rfl, hi, hb, hb2⟩; refine ⟨_, rfl, ?_⟩; have n0_ := Aside0.mk (hb); have n1_ := Aside0.mk (hi); clear HB; have HB := n0_; have HI105 := n1_; clear n0_ n1_; (try clear hb); (try clear hb2); (try clear hk); (try clear hi)) | ((with_reducible refine gate_callee (f := 12) rfl ?_); refine goesL_ (some 3) rfl rfl Try.func12 (by kernel_rfl) rfl #[.int .u64 128] rfl (by (try simp only [List.map_toArray, List.map_cons, List.map_nil]); first | done | rfl | (simp only [List.length_drop, List.length_take]; rfl)) ?_; (with_reducible refine (pack_Short.calls 128 t106 _ A2.out).mono ?_); rintro e w15 ⟨rfl, hb⟩; refine ⟨_, rfl, ?_⟩; have n0_ := Aside0.mk (IsS54.below (by repeat (first | (with_reducible first | exact HI105.out | apply IsS54.alloc | apply IsS54.drewN | apply IsS54.drew | apply IsS54.set_0 | apply IsS54.set_1 | apply IsS54.set_2) | exact HI105.out)) hb); have n1_ := Aside0.mk (below_step (by repeat (first | (with_reducible first | exact HB.out | apply below_alloc | apply pw_below_drewN | apply below_drew1 | refine below_set ?_ (IsS54.ge HI105.out)) | exact HB.out)) hb); clear HI105; clear HB; have HI105 := n0_; have HB := n1_; clear n0_ n1_; (try clear hb); (try clear hb2); (try clear hk); (try clear hi)) | (go_at_call 11; (with_reducible refine (pack_Fixed.calls 1 t107 _ A4.out).mono ?_); rintro e w16 ⟨rfl, hb⟩; have n0_ := Aside0.mk (IsS54.below (by repeat (first | (with_reducible first | exact HI105.out | apply IsS54.alloc | apply IsS54.drewN | apply IsS54.drew | apply IsS54.set_0 | apply IsS54.set_1 | apply IsS54.set_2) | exact HI105.out)) hb); have n1_ := Aside0.mk (below_step (by repeat (first | (with_reducible first | exact HB.out | apply below_alloc | apply pw_below_drewN | apply below_drew1 | refine below_set ?_ (IsS54.ge HI105.out)) | exact HB.out)) hb); clear HI105; clear HB; have HI105 := n0_; have HB := n1_; clear n0_ n1_; (try clear hb); (try clear hb2); (try clear hk); (try clear hi)) | (go_at_call 18; (with_reducible refine (pack_Reader_Short.calls g105 t102 t103 t104 t108 t109 t110 t111 w _ ?side1 ?side2 A6.out).mono ?_); (case side1 => repeat (first | (with_reducible first | exact HI105.out | apply IsS54.alloc | apply IsS54.drewN | apply IsS54.drew | apply IsS54.set_0 | apply IsS54.set_1 | apply IsS54.set_2) | exact HI105.out)); (case side2 => repeat (first | (with_reducible first | exact HB.out | apply below_alloc | apply pw_below_drewN | apply below_drew1 | refine below_set ?_ (IsS54.ge HI105.out)) | exact HB.out)); rintro e w17 ⟨rfl, hi, hb, hk⟩; have n0_ := Aside0.mk (hb); have n1_ := Aside0.mk (hi); clear HB; clear HI105; have HB := n0_; have HI105 := n1_; clear n0_ n1_; (try clear hb); (try clear hb2); (try clear hk); (try clear hi)))
        go_ret
        exact ⟨by first | rfl | (simp [errW_none, errW_some] <;> rfl) | (simp [*, errW_none, errW_some] <;> rfl), by repeat (first | (with_reducible first | exact HB.out | apply below_alloc | apply pw_below_drewN | apply below_drew1 | refine below_set ?_ (IsS54.ge HI105.out)) | exact HB.out)⟩
    · rw [if_neg c5] at H
      have c5b0 : (t107.toList == ([0, 0, 0, 0, 0, 0, 0, 1] : List UInt8)) = false := beq_eq_false_iff_ne.mpr c5
      have c5b1 : (t107.toList != ([0, 0, 0, 0, 0, 0, 0, 1] : List UInt8)) = true := bne_iff_ne.mpr c5
      obtain rfl := Option.some.inj H
      go_enter Try.func10, Try.ntmps10
      go_wp2_with (first | ((with_reducible refine gate_callee (f := 17) rfl ?_); refine goesL_ (some 2) rfl rfl Try.func17 (by kernel_rfl) rfl #[.string (⟨#[128, 1]⟩ : ByteArray)] rfl (by (try simp only [List.map_toArray, List.map_cons, List.map_nil]); first | done | rfl | (simp only [List.length_drop, List.length_take]; rfl)) ?_; (with_reducible refine (pack_Read.calls (⟨#[128, 1]⟩ : ByteArray) t102 t103 t104 w _ ?side1 A1.out).mono ?_); (case side1 => repeat (first | (with_reducible first | exact HB.out | apply below_alloc | apply pw_below_drewN | apply below_drew1) | exact HB.out)); rintro e w18 ⟨g105, rfl, hi, hb, hb2⟩; refine ⟨_, rfl, ?_⟩; have n0_ := Aside0.mk (hb); have n1_ := Aside0.mk (hi); clear HB; have HB := n0_; have HI105 := n1_; clear n0_ n1_; (try clear hb); (try clear hb2); (try clear hk); (try clear hi)) | ((with_reducible refine gate_callee (f := 12) rfl ?_); refine goesL_ (some 3) rfl rfl Try.func12 (by kernel_rfl) rfl #[.int .u64 128] rfl (by (try simp only [List.map_toArray, List.map_cons, List.map_nil]); first | done | rfl | (simp only [List.length_drop, List.length_take]; rfl)) ?_; (with_reducible refine (pack_Short.calls 128 t106 _ A2.out).mono ?_); rintro e w19 ⟨rfl, hb⟩; refine ⟨_, rfl, ?_⟩; have n0_ := Aside0.mk (IsS54.below (by repeat (first | (with_reducible first | exact HI105.out | apply IsS54.alloc | apply IsS54.drewN | apply IsS54.drew | apply IsS54.set_0 | apply IsS54.set_1 | apply IsS54.set_2) | exact HI105.out)) hb); have n1_ := Aside0.mk (below_step (by repeat (first | (with_reducible first | exact HB.out | apply below_alloc | apply pw_below_drewN | apply below_drew1 | refine below_set ?_ (IsS54.ge HI105.out)) | exact HB.out)) hb); clear HI105; clear HB; have HI105 := n0_; have HB := n1_; clear n0_ n1_; (try clear hb); (try clear hb2); (try clear hk); (try clear hi)) | (go_at_call 11; (with_reducible refine (pack_Fixed.calls 1 t107 _ A4.out).mono ?_); rintro e w20 ⟨rfl, hb⟩; have n0_ := Aside0.mk (IsS54.below (by repeat (first | (with_reducible first | exact HI105.out | apply IsS54.alloc | apply IsS54.drewN | apply IsS54.drew | apply IsS54.set_0 | apply IsS54.set_1 | apply IsS54.set_2) | exact HI105.out)) hb); have n1_ := Aside0.mk (below_step (by repeat (first | (with_reducible first | exact HB.out | apply below_alloc | apply pw_below_drewN | apply below_drew1 | refine below_set ?_ (IsS54.ge HI105.out)) | exact HB.out)) hb); clear HI105; clear HB; have HI105 := n0_; have HB := n1_; clear n0_ n1_; (try clear hb); (try clear hb2); (try clear hk); (try clear hi)))
      go_ret
      exact ⟨by first | rfl | (simp [errW_none, errW_some] <;> rfl) | (simp [*, errW_none, errW_some] <;> rfl), by repeat (first | (with_reducible first | exact HB.out | apply below_alloc | apply pw_below_drewN | apply below_drew1 | refine below_set ?_ (IsS54.ge HI105.out)) | exact HB.out)⟩
  · rw [if_neg c3] at H
    have c3b0 : (t106.toList == ([128, 1] : List UInt8)) = false := beq_eq_false_iff_ne.mpr c3
    have c3b1 : (t106.toList != ([128, 1] : List UInt8)) = true := bne_iff_ne.mpr c3
    obtain rfl := Option.some.inj H
    go_enter Try.func10, Try.ntmps10
    go_wp2_with (first | ((with_reducible refine gate_callee (f := 17) rfl ?_); refine goesL_ (some 2) rfl rfl Try.func17 (by kernel_rfl) rfl #[.string (⟨#[128, 1]⟩ : ByteArray)] rfl (by (try simp only [List.map_toArray, List.map_cons, List.map_nil]); first | done | rfl | (simp only [List.length_drop, List.length_take]; rfl)) ?_; (with_reducible refine (pack_Read.calls (⟨#[128, 1]⟩ : ByteArray) t102 t103 t104 w _ ?side1 A1.out).mono ?_); (case side1 => repeat (first | (with_reducible first | exact HB.out | apply below_alloc | apply pw_below_drewN | apply below_drew1) | exact HB.out)); rintro e w21 ⟨g105, rfl, hi, hb, hb2⟩; refine ⟨_, rfl, ?_⟩; have n0_ := Aside0.mk (hb); have n1_ := Aside0.mk (hi); clear HB; have HB := n0_; have HI105 := n1_; clear n0_ n1_; (try clear hb); (try clear hb2); (try clear hk); (try clear hi)) | ((with_reducible refine gate_callee (f := 12) rfl ?_); refine goesL_ (some 3) rfl rfl Try.func12 (by kernel_rfl) rfl #[.int .u64 128] rfl (by (try simp only [List.map_toArray, List.map_cons, List.map_nil]); first | done | rfl | (simp only [List.length_drop, List.length_take]; rfl)) ?_; (with_reducible refine (pack_Short.calls 128 t106 _ A2.out).mono ?_); rintro e w22 ⟨rfl, hb⟩; refine ⟨_, rfl, ?_⟩; have n0_ := Aside0.mk (IsS54.below (by repeat (first | (with_reducible first | exact HI105.out | apply IsS54.alloc | apply IsS54.drewN | apply IsS54.drew | apply IsS54.set_0 | apply IsS54.set_1 | apply IsS54.set_2) | exact HI105.out)) hb); have n1_ := Aside0.mk (below_step (by repeat (first | (with_reducible first | exact HB.out | apply below_alloc | apply pw_below_drewN | apply below_drew1 | refine below_set ?_ (IsS54.ge HI105.out)) | exact HB.out)) hb); clear HI105; clear HB; have HI105 := n0_; have HB := n1_; clear n0_ n1_; (try clear hb); (try clear hb2); (try clear hk); (try clear hi)))
    go_ret
    exact ⟨by first | rfl | (simp [errW_none, errW_some] <;> rfl) | (simp [*, errW_none, errW_some] <;> rfl), by repeat (first | (with_reducible first | exact HB.out | apply below_alloc | apply pw_below_drewN | apply below_drew1 | refine below_set ?_ (IsS54.ge HI105.out)) | exact HB.out)⟩

end Go.Proofs.Ytlicdfipockgaaa.PA
