-- WRITTEN BY a program of this session (pp.sh)
import Derived.Test.YtofdpgcnconibaaGreatDoorPAx0
import Derived.Test.YtofdpgcnconibaaGreatDoorPAx18
namespace Go.Proofs.YtofdpgcnconibaaGreatDoor.PA
open Go.RowKit Go.Proofs.YtofdpgcnconibaaGreatDoorW.PrintWords Go.Proofs.YtofdpgcnconibaaGreatDoorW.PrintLast Go.Proofs.YtofdpgcnconibaaGreatDoorW.PrintMore Go.Proofs.YtofdpgcnconibaaGreatDoor.Plain
attribute [local go_sem] max2_int min2_int max_two min_two max_three min_three max_four min_four binOp_leq_s binOp_gtr_s binOp_geq_s lit_byte   -- for this text's walks alone
set_option linter.unusedVariables false
set_option linter.unusedSimpArgs false

/-! ### coppiceref02_Reader_Fixed: function 60 -/
def coppiceref02_Reader_Fixed.l0 : Nat → Int → Int → ByteArray → Int → Option (Int × ByteArray × Int)
 | 0, _, _, _, _ => none
 | k + 1, x3, x4, x1000, x1001 => if x4 < 8 then (if 0 ≤ x4 then (if x4 < (x1000.size : Int) then (coppiceref02_Reader_Fixed.l0 k (Go.bits .or .u64 (IntKind.u64.wrap (x3 * 256)) (IntKind.u64.wrap (bt x1000 x4))) (wrap64 (x4 + 1)) x1000 x1001) else (none)) else (none)) else (if 8 ≤ (x1000.size : Int) then (some (x3, x1000.extract 8 x1000.size, x1001)) else (none))
def coppiceref02_Reader_Fixed.f (k : Nat) (s0_0 : ByteArray) (s0_1 : Int) : Option (Int × ByteArray × Int) := if s0_1 = 0 then (if (s0_0.size : Int) < 8 then (some (0, s0_0, 20)) else (coppiceref02_Reader_Fixed.l0 k 0 0 s0_0 s0_1)) else (some (0, s0_0, s0_1))
set_option maxHeartbeats 8000000 in
set_option maxRecDepth 100000 in
theorem coppiceref02_Reader_Fixed.calls (k : Nat) (g : Nat) (s0_0 : ByteArray) (s0_1 : Int) (r1 : Int) (r2 : ByteArray) (r3 : Int) (w0 w : World) (hI : IsS69 w0 w g s0_0 s0_1) (hB : Below w0.heap.size w0 w) (h : coppiceref02_Reader_Fixed.f k s0_0 s0_1 = some (r1, r2, r3)) :
  Calls Tryz.prog 60 #[.pointer (some ⟨g, 0, none⟩)] w fun e w' => e = .returned (.int .u64 r1) ∧ IsS69 w0 w' g r2 r3 ∧ Below w0.heap.size w0 w' ∧ KeepBut w w' g none := by
 have HI0 := Aside0.mk hI
 have HK := Aside0.mk (KeepBut.refl w g none)
 have HL := Aside0.mk hB.size
 clear hI
 have HW0 := Aside0.mk hB.size
 have HB := Aside0.mk hB
 clear hB
 have H : (if s0_1 = 0 then (if (s0_0.size : Int) < 8 then (some (0, s0_0, 20)) else (coppiceref02_Reader_Fixed.l0 k 0 0 s0_0 s0_1)) else (some (0, s0_0, s0_1))) = some (r1, r2, r3) := h
 clear h
 by_cases c2 : s0_1 = 0
 ·rw [if_pos c2] at H
  have c2b0 : (s0_1 == 0) = true := beq_iff_eq.mpr c2
  have c2b1 : (s0_1 != 0) = false := bne_eq_false_iff_eq.mpr c2
  clear c2
  by_cases c3 : (s0_0.size : Int) < 8
  ·rw [if_pos c3] at H
   have c3b0 : decide ((s0_0.size : Int) < 8) = true := decide_eq_true c3
   have c3b1 : decide (s0_0.size < 8) = true := decide_eq_true (by omega)
   clear c3
   simp only [Option.some.injEq, Prod.mk.injEq] at H
   obtain ⟨rfl, rfl, rfl⟩ := H
   obtain ⟨HGz4, hgz4⟩ := HI0.out
   have hcz4_0 := cellS69_0 HGz4
   have hcz4_1 := cellS69_1 HGz4
   have hfz4_0 := blk_frozen HGz4 0
   have hfz4_1 := blk_frozen HGz4 1
   clear HGz4 hgz4
   go_enter Tryz.func60, Tryz.ntmps60
   go_wp2
   go_ret
   exact ⟨by first | rfl | (simp [errW_none, errW_some] <;> rfl) | (simp [*, errW_none, errW_some] <;> rfl), by repeat (first | (with_reducible first | exact HI0.out | apply IsS69.alloc | apply IsS69.drewN | apply IsS69.drew | apply IsS69.set_0 | apply IsS69.set_1) | exact HI0.out), by repeat (first | (with_reducible first | exact HB.out | apply below_alloc | apply pw_below_drewN | apply below_drew1 | refine below_set ?_ (IsS69.ge HI0.out)) | exact HB.out), by repeat (first | (with_reducible first | exact HK.out | apply KeepBut.set_ | apply keep_drewN | apply keep_drew | apply keep_alloc) | exact HK.out)⟩
  ·rw [if_neg c3] at H
   have c3b0 : decide ((s0_0.size : Int) < 8) = false := decide_eq_false c3
   have c3b1 : decide (s0_0.size < 8) = false := decide_eq_false (by omega)
   clear c3
   have H' := Aside0.mk H
   clear H
   obtain ⟨HGz5, hgz5⟩ := HI0.out
   have hcz5_0 := cellS69_0 HGz5
   have hcz5_1 := cellS69_1 HGz5
   have hfz5_0 := blk_frozen HGz5 0
   have hfz5_1 := blk_frozen HGz5 1
   clear HGz5 hgz5
   go_enter Tryz.func60, Tryz.ntmps60
   go_wp2
   go_loopg [3, 4] k (fun kq v3 v4 w' => ∃ (x3_1 : Int) (x4_1 : Int), v3 = .int .u64 x3_1 ∧ v4 = .int .i64 x4_1 ∧ Aside0 (coppiceref02_Reader_Fixed.l0 kq x3_1 x4_1 s0_0 s0_1 = some (r1, r2, r3)) ∧ Aside0 (kq ≤ k) ∧ Aside0 (IsS69 w0 w' g s0_0 s0_1) ∧ Aside0 (KeepBut w w' g none) ∧ Aside0 (Below w0.heap.size w0 w'))
   case atStart => exact ⟨(0), (0), (by first | rfl | (simp; done) | (simp [*]; done)), (by first | rfl | (simp; done) | (simp [*]; done)), H', ⟨Nat.le_refl _⟩, ⟨by repeat (first | (with_reducible first | exact HI0.out | apply IsS69.alloc | apply IsS69.drewN | apply IsS69.drew | apply IsS69.set_0 | apply IsS69.set_1) | exact HI0.out)⟩, ⟨by repeat (first | (with_reducible first | exact HK.out | apply KeepBut.set_ | apply keep_drewN | apply keep_drew | apply keep_alloc) | exact HK.out)⟩, ⟨by repeat (first | (with_reducible first | exact HB.out | apply below_alloc | apply pw_below_drewN | apply below_drew1 | refine below_set ?_ (IsS69.ge HI0.out)) | exact HB.out)⟩⟩
   case round =>
    clear H'
    try clear c2
    try clear c2b0
    try clear c2b1
    try clear p2
    try clear c3
    try clear c3b0
    try clear c3b1
    try clear hcz4_0
    try clear hcz4_1
    try clear hcz5_0
    try clear hcz5_1
    try clear hfz4_0
    try clear hfz4_1
    try clear hfz5_0
    try clear hfz5_1
    obtain ⟨x3_1, x4_1, rfl, rfl, HA, HK1, HI0, HK, HB⟩ := hrel
    cases gk with
    | zero => exact absurd HA.out (by simp [coppiceref02_Reader_Fixed.l0])
    | succ k1 =>
     have H := HA.out
     clear HA
     simp only [coppiceref02_Reader_Fixed.l0] at H
     by_cases c6 : x4_1 < 8
     ·rw [if_pos c6] at H
      have c6b0 : decide (x4_1 < 8) = true := decide_eq_true c6
      clear c6
      by_cases c7 : 0 ≤ x4_1
      ·rw [if_pos c7] at H
       have c7b0 : decide (0 ≤ x4_1) = true := decide_eq_true c7
       clear c7
       by_cases c8 : x4_1 < (s0_0.size : Int)
       ·rw [if_pos c8] at H
        have c8b0 : decide (x4_1 < (s0_0.size : Int)) = true := decide_eq_true c8
        clear c8
        have H' := Aside0.mk H
        clear H
        obtain ⟨HGz10, hgz10⟩ := HI0.out
        have hcz10_0 := cellS69_0 HGz10
        have hcz10_1 := cellS69_1 HGz10
        have hfz10_0 := blk_frozen HGz10 0
        have hfz10_1 := blk_frozen HGz10 1
        clear HGz10 hgz10
        have p9 : 0 ≤ (x4_1 : Int) := of_decide_eq_true (by first | (with_reducible assumption) | assumption)
        have q9 : x4_1 < (s0_0.size : Int) := of_decide_eq_true (by first | (with_reducible assumption) | assumption)
        have hx9 := bt_at s0_0 x4_1
        replace p9 := eq_true p9
        replace q9 := eq_true q9
        go_wp2
        go_roundg k1
        case measure => have := HK1.out; omega
        case rel => exact ⟨(Go.bits .or .u64 (IntKind.u64.wrap (x3_1 * 256)) (IntKind.u64.wrap (bt s0_0 x4_1))), (wrap64 (x4_1 + 1)), (by first | rfl | (simp; done) | (simp [*]; done)), (by first | rfl | (simp; done) | (simp [*]; done)), H', ⟨by have := HK1.out; omega⟩, ⟨by repeat (first | (with_reducible first | exact HI0.out | apply IsS69.alloc | apply IsS69.drewN | apply IsS69.drew | apply IsS69.set_0 | apply IsS69.set_1) | exact HI0.out)⟩, ⟨by repeat (first | (with_reducible first | exact HK.out | apply KeepBut.set_ | apply keep_drewN | apply keep_drew | apply keep_alloc) | exact HK.out)⟩, ⟨by repeat (first | (with_reducible first | exact HB.out | apply below_alloc | apply pw_below_drewN | apply below_drew1 | refine below_set ?_ (IsS69.ge HI0.out)) | exact HB.out)⟩⟩
       ·rw [if_neg c8] at H
        exact absurd H (by simp)
      ·rw [if_neg c7] at H
       exact absurd H (by simp)
     ·rw [if_neg c6] at H
      have c6b0 : decide (x4_1 < 8) = false := decide_eq_false c6
      clear c6
      by_cases c11 : 8 ≤ (s0_0.size : Int)
      ·rw [if_pos c11] at H
       have c11b0 := eq_true c11
       have c11b1 : decide (8 ≤ (s0_0.size : Int)) = true := decide_eq_true c11
       clear c11
       simp only [Option.some.injEq, Prod.mk.injEq] at H
       obtain ⟨rfl, rfl, rfl⟩ := H
       obtain ⟨HGz12, hgz12⟩ := HI0.out
       have hcz12_0 := cellS69_0 HGz12
       have hcz12_1 := cellS69_1 HGz12
       have hfz12_0 := blk_frozen HGz12 0
       have hfz12_1 := blk_frozen HGz12 1
       clear HGz12 hgz12
       go_wp2
       go_ret
       exact ⟨by first | rfl | (simp [errW_none, errW_some] <;> rfl) | (simp [*, errW_none, errW_some] <;> rfl), by repeat (first | (with_reducible first | exact HI0.out | apply IsS69.alloc | apply IsS69.drewN | apply IsS69.drew | apply IsS69.set_0 | apply IsS69.set_1) | exact HI0.out), by repeat (first | (with_reducible first | exact HB.out | apply below_alloc | apply pw_below_drewN | apply below_drew1 | refine below_set ?_ (IsS69.ge HI0.out)) | exact HB.out), by repeat (first | (with_reducible first | exact HK.out | apply KeepBut.set_ | apply keep_drewN | apply keep_drew | apply keep_alloc) | exact HK.out)⟩
      ·rw [if_neg c11] at H
       exact absurd H (by simp)
 ·rw [if_neg c2] at H
  have c2b0 : (s0_1 == 0) = false := beq_eq_false_iff_ne.mpr c2
  have c2b1 : (s0_1 != 0) = true := bne_iff_ne.mpr c2
  simp only [Option.some.injEq, Prod.mk.injEq] at H
  obtain ⟨rfl, rfl, rfl⟩ := H
  obtain ⟨HGz13, hgz13⟩ := HI0.out
  have hcz13_0 := cellS69_0 HGz13
  have hcz13_1 := cellS69_1 HGz13
  have hfz13_0 := blk_frozen HGz13 0
  have hfz13_1 := blk_frozen HGz13 1
  clear HGz13 hgz13
  go_enter Tryz.func60, Tryz.ntmps60
  go_wp2
  go_ret
  exact ⟨by first | rfl | (simp [errW_none, errW_some] <;> rfl) | (simp [*, errW_none, errW_some] <;> rfl), by repeat (first | (with_reducible first | exact HI0.out | apply IsS69.alloc | apply IsS69.drewN | apply IsS69.drew | apply IsS69.set_0 | apply IsS69.set_1) | exact HI0.out), by repeat (first | (with_reducible first | exact HB.out | apply below_alloc | apply pw_below_drewN | apply below_drew1 | refine below_set ?_ (IsS69.ge HI0.out)) | exact HB.out), by repeat (first | (with_reducible first | exact HK.out | apply KeepBut.set_ | apply keep_drewN | apply keep_drew | apply keep_alloc) | exact HK.out)⟩

/-! ### coppiceref02_Reader_End: function 61 -/
def coppiceref02_Reader_End.f (s0_0 : ByteArray) (s0_1 : Int) : Option (Int × ByteArray × Int) := if s0_1 = 0 then (if s0_0.toList = ([] : List UInt8) then (some (s0_1, s0_0, s0_1)) else (some (22, s0_0, s0_1))) else (some (s0_1, s0_0, s0_1))
set_option maxHeartbeats 8000000 in
set_option maxRecDepth 100000 in
theorem coppiceref02_Reader_End.calls (g : Nat) (s0_0 : ByteArray) (s0_1 : Int) (r1 : Int) (r2 : ByteArray) (r3 : Int) (w0 w : World) (hI : IsS69 w0 w g s0_0 s0_1) (hB : Below w0.heap.size w0 w) (h : coppiceref02_Reader_End.f s0_0 s0_1 = some (r1, r2, r3)) :
  Calls Tryz.prog 61 #[.pointer (some ⟨g, 0, none⟩)] w fun e w' => e = .returned (.int .i64 r1) ∧ IsS69 w0 w' g r2 r3 ∧ Below w0.heap.size w0 w' ∧ KeepBut w w' g none := by
 have HI0 := Aside0.mk hI
 have HK := Aside0.mk (KeepBut.refl w g none)
 have HL := Aside0.mk hB.size
 clear hI
 have HW0 := Aside0.mk hB.size
 have HB := Aside0.mk hB
 clear hB
 have H : (if s0_1 = 0 then (if s0_0.toList = ([] : List UInt8) then (some (s0_1, s0_0, s0_1)) else (some (22, s0_0, s0_1))) else (some (s0_1, s0_0, s0_1))) = some (r1, r2, r3) := h
 clear h
 by_cases c2 : s0_1 = 0
 ·rw [if_pos c2] at H
  have c2b0 : (s0_1 == 0) = true := beq_iff_eq.mpr c2
  have c2b1 : (s0_1 != 0) = false := bne_eq_false_iff_eq.mpr c2
  clear c2
  by_cases c3 : s0_0.toList = ([] : List UInt8)
  ·rw [if_pos c3] at H
   have c3b0 : (s0_0.toList == ([] : List UInt8)) = true := beq_iff_eq.mpr c3
   have c3b1 : (s0_0.toList != ([] : List UInt8)) = false := bne_eq_false_iff_eq.mpr c3
   clear c3
   simp only [Option.some.injEq, Prod.mk.injEq] at H
   obtain ⟨rfl, rfl, rfl⟩ := H
   obtain ⟨HGz4, hgz4⟩ := HI0.out
   have hcz4_0 := cellS69_0 HGz4
   have hcz4_1 := cellS69_1 HGz4
   have hfz4_0 := blk_frozen HGz4 0
   have hfz4_1 := blk_frozen HGz4 1
   clear HGz4 hgz4
   go_enter Tryz.func61, Tryz.ntmps61
   go_wp2
   go_ret
   exact ⟨by first | rfl | (simp [errW_none, errW_some] <;> rfl) | (simp [*, errW_none, errW_some] <;> rfl), by repeat (first | (with_reducible first | exact HI0.out | apply IsS69.alloc | apply IsS69.drewN | apply IsS69.drew | apply IsS69.set_0 | apply IsS69.set_1) | exact HI0.out), by repeat (first | (with_reducible first | exact HB.out | apply below_alloc | apply pw_below_drewN | apply below_drew1 | refine below_set ?_ (IsS69.ge HI0.out)) | exact HB.out), by repeat (first | (with_reducible first | exact HK.out | apply KeepBut.set_ | apply keep_drewN | apply keep_drew | apply keep_alloc) | exact HK.out)⟩
  ·rw [if_neg c3] at H
   have c3b0 : (s0_0.toList == ([] : List UInt8)) = false := beq_eq_false_iff_ne.mpr c3
   have c3b1 : (s0_0.toList != ([] : List UInt8)) = true := bne_iff_ne.mpr c3
   simp only [Option.some.injEq, Prod.mk.injEq] at H
   obtain ⟨rfl, rfl, rfl⟩ := H
   obtain ⟨HGz5, hgz5⟩ := HI0.out
   have hcz5_0 := cellS69_0 HGz5
   have hcz5_1 := cellS69_1 HGz5
   have hfz5_0 := blk_frozen HGz5 0
   have hfz5_1 := blk_frozen HGz5 1
   clear HGz5 hgz5
   go_enter Tryz.func61, Tryz.ntmps61
   go_wp2
   go_ret
   exact ⟨by first | rfl | (simp [errW_none, errW_some] <;> rfl) | (simp [*, errW_none, errW_some] <;> rfl), by repeat (first | (with_reducible first | exact HI0.out | apply IsS69.alloc | apply IsS69.drewN | apply IsS69.drew | apply IsS69.set_0 | apply IsS69.set_1) | exact HI0.out), by repeat (first | (with_reducible first | exact HB.out | apply below_alloc | apply pw_below_drewN | apply below_drew1 | refine below_set ?_ (IsS69.ge HI0.out)) | exact HB.out), by repeat (first | (with_reducible first | exact HK.out | apply KeepBut.set_ | apply keep_drewN | apply keep_drew | apply keep_alloc) | exact HK.out)⟩
 ·rw [if_neg c2] at H
  have c2b0 : (s0_1 == 0) = false := beq_eq_false_iff_ne.mpr c2
  have c2b1 : (s0_1 != 0) = true := bne_iff_ne.mpr c2
  simp only [Option.some.injEq, Prod.mk.injEq] at H
  obtain ⟨rfl, rfl, rfl⟩ := H
  obtain ⟨HGz6, hgz6⟩ := HI0.out
  have hcz6_0 := cellS69_0 HGz6
  have hcz6_1 := cellS69_1 HGz6
  have hfz6_0 := blk_frozen HGz6 0
  have hfz6_1 := blk_frozen HGz6 1
  clear HGz6 hgz6
  go_enter Tryz.func61, Tryz.ntmps61
  go_wp2
  go_ret
  exact ⟨by first | rfl | (simp [errW_none, errW_some] <;> rfl) | (simp [*, errW_none, errW_some] <;> rfl), by repeat (first | (with_reducible first | exact HI0.out | apply IsS69.alloc | apply IsS69.drewN | apply IsS69.drew | apply IsS69.set_0 | apply IsS69.set_1) | exact HI0.out), by repeat (first | (with_reducible first | exact HB.out | apply below_alloc | apply pw_below_drewN | apply below_drew1 | refine below_set ?_ (IsS69.ge HI0.out)) | exact HB.out), by repeat (first | (with_reducible first | exact HK.out | apply KeepBut.set_ | apply keep_drewN | apply keep_drew | apply keep_alloc) | exact HK.out)⟩

end Go.Proofs.YtofdpgcnconibaaGreatDoor.PA
