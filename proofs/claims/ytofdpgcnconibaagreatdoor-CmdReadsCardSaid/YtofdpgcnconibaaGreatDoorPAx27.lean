-- WRITTEN BY a program of this session (pp.sh)
import Derived.Test.YtofdpgcnconibaaGreatDoorPAx0
import Derived.Test.YtofdpgcnconibaaGreatDoorPAx18
namespace Go.Proofs.YtofdpgcnconibaaGreatDoor.PA
open Go.RowKit Go.Proofs.YtofdpgcnconibaaGreatDoorW.PrintWords Go.Proofs.YtofdpgcnconibaaGreatDoorW.PrintLast Go.Proofs.YtofdpgcnconibaaGreatDoorW.PrintMore Go.Proofs.YtofdpgcnconibaaGreatDoor.Plain
attribute [local go_sem] max2_int min2_int max_two min_two max_three min_three max_four min_four binOp_leq_s binOp_gtr_s binOp_geq_s lit_byte   -- for this text's walks alone
set_option linter.unusedVariables false
set_option linter.unusedSimpArgs false

/-! ### coppiceref02_Reader_Text: function 59 -/
mutual
def coppiceref02_Reader_Text.j0 : Nat → Int → Int → Int → Bool → ByteArray → Int → Option (ByteArray × ByteArray × Int)
 | 0, _, _, _, _, _, _ => none
 | k + 1, x5, x6, x7, x34, x1000, x1001 => if x34 = true then (coppiceref02_Reader_Text.j1 k x5 x6 22 x1000 x1001) else (coppiceref02_Reader_Text.j1 k x5 x6 x7 x1000 x1001)
def coppiceref02_Reader_Text.j1 : Nat → Int → Int → Int → ByteArray → Int → Option (ByteArray × ByteArray × Int)
 | 0, _, _, _, _, _ => none
 | k + 1, x5, x6, x7, x1000, x1001 => if x7 = 0 then (coppiceref02_Reader_Text.j2 k x5 x6 x7 (decide (x5 > (IntKind.u64.wrap (wrap64 ((x1000.size : Int) - x6))))) x1000 x1001) else (coppiceref02_Reader_Text.j2 k x5 x6 x7 false x1000 x1001)
def coppiceref02_Reader_Text.j2 : Nat → Int → Int → Int → Bool → ByteArray → Int → Option (ByteArray × ByteArray × Int)
 | 0, _, _, _, _, _, _ => none
 | k + 1, x5, x6, x7, x48, x1000, x1001 => if x48 = true then (some ((⟨#[]⟩ : ByteArray), x1000, 20)) else (if x7 = 0 then (if 0 ≤ x6 then (if x6 ≤ (wrap64 (x6 + (wrap64 (x5)))) then (if (wrap64 (x6 + (wrap64 (x5)))) ≤ (x1000.size : Int) then (if 0 ≤ (wrap64 (x6 + (wrap64 (x5)))) then (some (x1000.extract (x6 : Int).toNat ((wrap64 (x6 + (wrap64 (x5)))) : Int).toNat, x1000.extract ((wrap64 (x6 + (wrap64 (x5)))) : Int).toNat x1000.size, x1001)) else (none)) else (none)) else (none)) else (none)) else (some ((⟨#[]⟩ : ByteArray), x1000, x7)))
end
def coppiceref02_Reader_Text.f (k : Nat) (s0_0 : ByteArray) (s0_1 : Int) (a1 : Int) : Option (ByteArray × ByteArray × Int) := if s0_1 = 0 then ((coppiceref02_scan.f k s0_0).bind fun bt268 => (if bt268.2.2 = 0 then (if a1 < 0 then (coppiceref02_Reader_Text.j0 k bt268.1 bt268.2.1 bt268.2.2 true s0_0 s0_1) else (coppiceref02_Reader_Text.j0 k bt268.1 bt268.2.1 bt268.2.2 (decide (bt268.1 > (IntKind.u64.wrap (a1)))) s0_0 s0_1)) else (coppiceref02_Reader_Text.j0 k bt268.1 bt268.2.1 bt268.2.2 false s0_0 s0_1))) else (some ((⟨#[]⟩ : ByteArray), s0_0, s0_1))
set_option maxHeartbeats 8000000 in
set_option maxRecDepth 100000 in
theorem coppiceref02_Reader_Text.calls (k : Nat) (g : Nat) (s0_0 : ByteArray) (s0_1 : Int) (a1 : Int) (r1 : ByteArray) (r2 : ByteArray) (r3 : Int) (w0 w : World) (hI : IsS69 w0 w g s0_0 s0_1) (hB : Below w0.heap.size w0 w) (h : coppiceref02_Reader_Text.f k s0_0 s0_1 a1 = some (r1, r2, r3)) :
  Calls Tryz.prog 59 #[.pointer (some ⟨g, 0, none⟩), .int .i64 a1] w fun e w' => e = .returned (.string r1) ∧ IsS69 w0 w' g r2 r3 ∧ Below w0.heap.size w0 w' ∧ KeepBut w w' g none := by
 have HI0 := Aside0.mk hI
 have HK := Aside0.mk (KeepBut.refl w g none)
 have HL := Aside0.mk hB.size
 clear hI
 have HW0 := Aside0.mk hB.size
 have HB := Aside0.mk hB
 clear hB
 have H : (if s0_1 = 0 then ((coppiceref02_scan.f k s0_0).bind fun bt268 => (if bt268.2.2 = 0 then (if a1 < 0 then (coppiceref02_Reader_Text.j0 k bt268.1 bt268.2.1 bt268.2.2 true s0_0 s0_1) else (coppiceref02_Reader_Text.j0 k bt268.1 bt268.2.1 bt268.2.2 (decide (bt268.1 > (IntKind.u64.wrap (a1)))) s0_0 s0_1)) else (coppiceref02_Reader_Text.j0 k bt268.1 bt268.2.1 bt268.2.2 false s0_0 s0_1))) else (some ((⟨#[]⟩ : ByteArray), s0_0, s0_1))) = some (r1, r2, r3) := h
 clear h
 by_cases c3 : s0_1 = 0
 ·rw [if_pos c3] at H
  have c3b0 : (s0_1 == 0) = true := beq_iff_eq.mpr c3
  have c3b1 : (s0_1 != 0) = false := bne_eq_false_iff_eq.mpr c3
  clear c3
  replace H := Option.bind_eq_some_iff.mp H
  obtain ⟨⟨t268, t269, t270⟩, A40, H⟩ := H
  replace H : (if t270 = 0 then (if a1 < 0 then (coppiceref02_Reader_Text.j0 k t268 t269 t270 true s0_0 s0_1) else (coppiceref02_Reader_Text.j0 k t268 t269 t270 (decide (t268 > (IntKind.u64.wrap (a1)))) s0_0 s0_1)) else (coppiceref02_Reader_Text.j0 k t268 t269 t270 false s0_0 s0_1)) = some (r1, r2, r3) := H
  have A4 := Aside0.mk A40
  clear A40
  have HC5 := Aside0.mk H
  clear H
  obtain ⟨HGz6, hgz6⟩ := HI0.out
  have hcz6_0 := cellS69_0 HGz6
  have hcz6_1 := cellS69_1 HGz6
  have hfz6_0 := blk_frozen HGz6 0
  have hfz6_1 := blk_frozen HGz6 1
  clear HGz6 hgz6
  go_enter Tryz.func59, Tryz.ntmps59
  go_upto_region 4 with (first | ((with_reducible refine gate_callee (f := 57) rfl ?_); refine goesL_ (some 19) rfl rfl Tryz.func57 (by kernel_rfl) rfl #[.string s0_0] rfl (by (try simp only [List.map_toArray, List.map_cons, List.map_nil]); first | done | rfl | (simp only [List.length_drop, List.length_take]; rfl)) ?_; (with_reducible refine (coppiceref02_scan.calls k s0_0 t268 t269 t270 _ A4.out).mono ?_); rintro e w' ⟨rfl, ⟨nd, rfl⟩⟩; refine ⟨_, rfl, ?_⟩))
  (try simp only [Act.put, List.setIfInBounds_toArray, List.set_cons_zero, List.set_cons_succ])
  go_cut [34] (fun v34 wc => ∃ (kq : Nat) (x34_4 : Bool), v34 = .bool x34_4 ∧ Aside0 (coppiceref02_Reader_Text.j0 kq t268 t269 t270 x34_4 s0_0 s0_1 = some (r1, r2, r3)) ∧ Aside0 (kq ≤ k) ∧ Aside0 (IsS69 w0 wc g s0_0 s0_1) ∧ Aside0 (KeepBut w wc g none) ∧ Aside0 (Below w0.heap.size w0 wc))
  case first =>
   have H := HC5.out
   clear HC5
   by_cases c7 : t270 = 0
   ·rw [if_pos c7] at H
    have c7b0 : (t270 == 0) = true := beq_iff_eq.mpr c7
    have c7b1 : (t270 != 0) = false := bne_eq_false_iff_eq.mpr c7
    clear c7
    (first | rw [c7b0] | (simp only [i64_w, i32_w]; rw [c7b0]) | skip)
    by_cases c8 : a1 < 0
    ·rw [if_pos c8] at H
     have c8b0 : decide (a1 < 0) = true := decide_eq_true c8
     clear c8
     have H' := Aside0.mk H
     clear H
     go_wp2
     go_meet
     case rel => exact ⟨_, (true), (by first | rfl | (simp; done) | (simp [*]; done)), H', ⟨by first | omega | exact Nat.le_refl _⟩, ⟨by repeat (first | (with_reducible first | exact HI0.out | apply IsS69.alloc | apply IsS69.drewN | apply IsS69.drew | apply IsS69.set_0 | apply IsS69.set_1) | exact HI0.out)⟩, ⟨by repeat (first | (with_reducible first | exact HK.out | apply KeepBut.set_ | apply keep_drewN | apply keep_drew | apply keep_alloc) | exact HK.out)⟩, ⟨by repeat (first | (with_reducible first | exact HB.out | apply below_alloc | apply pw_below_drewN | apply below_drew1 | refine below_set ?_ (IsS69.ge HI0.out)) | exact HB.out)⟩⟩
    ·rw [if_neg c8] at H
     have c8b0 : decide (a1 < 0) = false := decide_eq_false c8
     clear c8
     have H' := Aside0.mk H
     clear H
     go_wp2
     go_meet
     case rel => exact ⟨_, (decide (t268 > (IntKind.u64.wrap (a1)))), (by first | rfl | (simp; done) | (simp [*]; done)), H', ⟨by first | omega | exact Nat.le_refl _⟩, ⟨by repeat (first | (with_reducible first | exact HI0.out | apply IsS69.alloc | apply IsS69.drewN | apply IsS69.drew | apply IsS69.set_0 | apply IsS69.set_1) | exact HI0.out)⟩, ⟨by repeat (first | (with_reducible first | exact HK.out | apply KeepBut.set_ | apply keep_drewN | apply keep_drew | apply keep_alloc) | exact HK.out)⟩, ⟨by repeat (first | (with_reducible first | exact HB.out | apply below_alloc | apply pw_below_drewN | apply below_drew1 | refine below_set ?_ (IsS69.ge HI0.out)) | exact HB.out)⟩⟩
   ·rw [if_neg c7] at H
    have c7b0 : (t270 == 0) = false := beq_eq_false_iff_ne.mpr c7
    have c7b1 : (t270 != 0) = true := bne_iff_ne.mpr c7
    (first | rw [c7b0] | (simp only [i64_w, i32_w]; rw [c7b0]) | skip)
    have H' := Aside0.mk H
    clear H
    go_wp2
    go_meet
    case rel => exact ⟨_, (false), (by first | rfl | (simp; done) | (simp [*]; done)), H', ⟨by first | omega | exact Nat.le_refl _⟩, ⟨by repeat (first | (with_reducible first | exact HI0.out | apply IsS69.alloc | apply IsS69.drewN | apply IsS69.drew | apply IsS69.set_0 | apply IsS69.set_1) | exact HI0.out)⟩, ⟨by repeat (first | (with_reducible first | exact HK.out | apply KeepBut.set_ | apply keep_drewN | apply keep_drew | apply keep_alloc) | exact HK.out)⟩, ⟨by repeat (first | (with_reducible first | exact HB.out | apply below_alloc | apply pw_below_drewN | apply below_drew1 | refine below_set ?_ (IsS69.ge HI0.out)) | exact HB.out)⟩⟩
  case rest =>
   clear HC5
   try clear p2
   try clear c3
   try clear c3b0
   try clear c3b1
   try clear c5
   try clear c7
   try clear c7b0
   try clear c7b1
   try clear c8
   try clear c8b0
   try clear hcz6_0
   try clear hcz6_1
   try clear hfz6_0
   try clear hfz6_1
   obtain ⟨kq, x34_4, rfl, HA, HJ4, HI0, HK, HB⟩ := hcut
   cases kq with
   | zero => exact absurd HA.out (by simp [coppiceref02_Reader_Text.j0])
   | succ kj4 =>
    have H := HA.out
    clear HA
    simp only [coppiceref02_Reader_Text.j0] at H
    have HC9 := Aside0.mk H
    clear H
    go_upto_if 34 with (fail)
    go_cut [7] (fun v7 wc => ∃ (kq : Nat) (x7_8 : Int), v7 = .int .i64 x7_8 ∧ Aside0 (coppiceref02_Reader_Text.j1 kq t268 t269 x7_8 s0_0 s0_1 = some (r1, r2, r3)) ∧ Aside0 (kq ≤ kj4) ∧ Aside0 (IsS69 w0 wc g s0_0 s0_1) ∧ Aside0 (KeepBut w wc g none) ∧ Aside0 (Below w0.heap.size w0 wc))
    case first =>
     have H := HC9.out
     clear HC9
     by_cases c10 : x34_4 = true
     ·subst c10
      have H1 : (coppiceref02_Reader_Text.j1 kj4 t268 t269 22 s0_0 s0_1) = some (r1, r2, r3) := by rw [if_pos rfl] at H; exact H
      clear H
      have H := H1
      clear H1
      have H' := Aside0.mk H
      clear H
      go_wp2
      go_meet
      case rel => exact ⟨_, (22), (by first | rfl | (simp; done) | (simp [*]; done)), H', ⟨by have := HJ4.out; first | omega | exact Nat.le_refl _⟩, ⟨by repeat (first | (with_reducible first | exact HI0.out | apply IsS69.alloc | apply IsS69.drewN | apply IsS69.drew | apply IsS69.set_0 | apply IsS69.set_1) | exact HI0.out)⟩, ⟨by repeat (first | (with_reducible first | exact HK.out | apply KeepBut.set_ | apply keep_drewN | apply keep_drew | apply keep_alloc) | exact HK.out)⟩, ⟨by repeat (first | (with_reducible first | exact HB.out | apply below_alloc | apply pw_below_drewN | apply below_drew1 | refine below_set ?_ (IsS69.ge HI0.out)) | exact HB.out)⟩⟩
     ·replace c10 := Bool.eq_false_iff.mpr c10
      subst c10
      have H1 : (coppiceref02_Reader_Text.j1 kj4 t268 t269 t270 s0_0 s0_1) = some (r1, r2, r3) := by rw [if_neg (show ¬ (false = true) by decide)] at H; exact H
      clear H
      have H := H1
      clear H1
      have H' := Aside0.mk H
      clear H
      go_wp2
      go_meet
      case rel => exact ⟨_, (t270), (by first | rfl | (simp; done) | (simp [*]; done)), H', ⟨by have := HJ4.out; first | omega | exact Nat.le_refl _⟩, ⟨by repeat (first | (with_reducible first | exact HI0.out | apply IsS69.alloc | apply IsS69.drewN | apply IsS69.drew | apply IsS69.set_0 | apply IsS69.set_1) | exact HI0.out)⟩, ⟨by repeat (first | (with_reducible first | exact HK.out | apply KeepBut.set_ | apply keep_drewN | apply keep_drew | apply keep_alloc) | exact HK.out)⟩, ⟨by repeat (first | (with_reducible first | exact HB.out | apply below_alloc | apply pw_below_drewN | apply below_drew1 | refine below_set ?_ (IsS69.ge HI0.out)) | exact HB.out)⟩⟩
    case rest =>
     clear HC9
     try clear c1
     try clear p2
     try clear c3
     try clear c3b0
     try clear c3b1
     try clear c5
     try clear c7
     try clear c7b0
     try clear c7b1
     try clear c8
     try clear c8b0
     try clear c10
     try clear hcz6_0
     try clear hcz6_1
     try clear hfz6_0
     try clear hfz6_1
     try clear p2
     obtain ⟨kq, x7_8, rfl, HA, HJ8, HI0, HK, HB⟩ := hcut
     cases kq with
     | zero => exact absurd HA.out (by simp [coppiceref02_Reader_Text.j1])
     | succ kj8 =>
      have H := HA.out
      clear HA
      simp only [coppiceref02_Reader_Text.j1] at H
      have HC11 := Aside0.mk H
      clear H
      go_upto_region 6 with (fail)
      go_cut [48] (fun v48 wc => ∃ (kq : Nat) (x48_10 : Bool), v48 = .bool x48_10 ∧ Aside0 (coppiceref02_Reader_Text.j2 kq t268 t269 x7_8 x48_10 s0_0 s0_1 = some (r1, r2, r3)) ∧ Aside0 (kq ≤ kj8) ∧ Aside0 (IsS69 w0 wc g s0_0 s0_1) ∧ Aside0 (KeepBut w wc g none) ∧ Aside0 (Below w0.heap.size w0 wc))
      case first =>
       have H := HC11.out
       clear HC11
       by_cases c12 : x7_8 = 0
       ·rw [if_pos c12] at H
        have c12b0 : (x7_8 == 0) = true := beq_iff_eq.mpr c12
        have c12b1 : (x7_8 != 0) = false := bne_eq_false_iff_eq.mpr c12
        clear c12
        (first | rw [c12b0] | (simp only [i64_w, i32_w]; rw [c12b0]) | skip)
        have H' := Aside0.mk H
        clear H
        obtain ⟨HGz13, hgz13⟩ := HI0.out
        have hcz13_0 := cellS69_0 HGz13
        have hcz13_1 := cellS69_1 HGz13
        have hfz13_0 := blk_frozen HGz13 0
        have hfz13_1 := blk_frozen HGz13 1
        clear HGz13 hgz13
        go_wp2
        go_meet
        case rel => exact ⟨_, (decide (t268 > (IntKind.u64.wrap (wrap64 ((s0_0.size : Int) - t269))))), (by first | rfl | (simp; done) | (simp [*]; done)), H', ⟨by have := HJ4.out; have := HJ8.out; first | omega | exact Nat.le_refl _⟩, ⟨by repeat (first | (with_reducible first | exact HI0.out | apply IsS69.alloc | apply IsS69.drewN | apply IsS69.drew | apply IsS69.set_0 | apply IsS69.set_1) | exact HI0.out)⟩, ⟨by repeat (first | (with_reducible first | exact HK.out | apply KeepBut.set_ | apply keep_drewN | apply keep_drew | apply keep_alloc) | exact HK.out)⟩, ⟨by repeat (first | (with_reducible first | exact HB.out | apply below_alloc | apply pw_below_drewN | apply below_drew1 | refine below_set ?_ (IsS69.ge HI0.out)) | exact HB.out)⟩⟩
       ·rw [if_neg c12] at H
        have c12b0 : (x7_8 == 0) = false := beq_eq_false_iff_ne.mpr c12
        have c12b1 : (x7_8 != 0) = true := bne_iff_ne.mpr c12
        (first | rw [c12b0] | (simp only [i64_w, i32_w]; rw [c12b0]) | skip)
        have H' := Aside0.mk H
        clear H
        go_wp2
        go_meet
        case rel => exact ⟨_, (false), (by first | rfl | (simp; done) | (simp [*]; done)), H', ⟨by have := HJ4.out; have := HJ8.out; first | omega | exact Nat.le_refl _⟩, ⟨by repeat (first | (with_reducible first | exact HI0.out | apply IsS69.alloc | apply IsS69.drewN | apply IsS69.drew | apply IsS69.set_0 | apply IsS69.set_1) | exact HI0.out)⟩, ⟨by repeat (first | (with_reducible first | exact HK.out | apply KeepBut.set_ | apply keep_drewN | apply keep_drew | apply keep_alloc) | exact HK.out)⟩, ⟨by repeat (first | (with_reducible first | exact HB.out | apply below_alloc | apply pw_below_drewN | apply below_drew1 | refine below_set ?_ (IsS69.ge HI0.out)) | exact HB.out)⟩⟩
      case rest =>
       clear HC11
       try clear c1
       try clear p2
       try clear c3
       try clear c3b0
       try clear c3b1
       try clear c5
       try clear p6
       try clear c7
       try clear c7b0
       try clear c7b1
       try clear c8
       try clear c8b0
       try clear c10
       try clear c12
       try clear c12b0
       try clear c12b1
       try clear hcz13_0
       try clear hcz13_1
       try clear hcz6_0
       try clear hcz6_1
       try clear hfz13_0
       try clear hfz13_1
       try clear hfz6_0
       try clear hfz6_1
       try clear p2
       obtain ⟨kq, x48_10, rfl, HA, HJ10, HI0, HK, HB⟩ := hcut
       cases kq with
       | zero => exact absurd HA.out (by simp [coppiceref02_Reader_Text.j2])
       | succ kj10 =>
        have H := HA.out
        clear HA
        simp only [coppiceref02_Reader_Text.j2] at H
        by_cases c14 : x48_10 = true
        ·subst c14
         have H1 : (some ((⟨#[]⟩ : ByteArray), s0_0, 20)) = some (r1, r2, r3) := by rw [if_pos rfl] at H; exact H
         clear H
         have H := H1
         clear H1
         simp only [Option.some.injEq, Prod.mk.injEq] at H
         obtain ⟨rfl, rfl, rfl⟩ := H
         obtain ⟨HGz15, hgz15⟩ := HI0.out
         have hcz15_0 := cellS69_0 HGz15
         have hcz15_1 := cellS69_1 HGz15
         have hfz15_0 := blk_frozen HGz15 0
         have hfz15_1 := blk_frozen HGz15 1
         clear HGz15 hgz15
         go_wp2
         go_ret
         exact ⟨by first | rfl | (simp [errW_none, errW_some] <;> rfl) | (simp [*, errW_none, errW_some] <;> rfl), by repeat (first | (with_reducible first | exact HI0.out | apply IsS69.alloc | apply IsS69.drewN | apply IsS69.drew | apply IsS69.set_0 | apply IsS69.set_1) | exact HI0.out), by repeat (first | (with_reducible first | exact HB.out | apply below_alloc | apply pw_below_drewN | apply below_drew1 | refine below_set ?_ (IsS69.ge HI0.out)) | exact HB.out), by repeat (first | (with_reducible first | exact HK.out | apply KeepBut.set_ | apply keep_drewN | apply keep_drew | apply keep_alloc) | exact HK.out)⟩
        ·replace c14 := Bool.eq_false_iff.mpr c14
         subst c14
         have H1 : (if x7_8 = 0 then (if 0 ≤ t269 then (if t269 ≤ (wrap64 (t269 + (wrap64 (t268)))) then (if (wrap64 (t269 + (wrap64 (t268)))) ≤ (s0_0.size : Int) then (if 0 ≤ (wrap64 (t269 + (wrap64 (t268)))) then (some (s0_0.extract (t269 : Int).toNat ((wrap64 (t269 + (wrap64 (t268)))) : Int).toNat, s0_0.extract ((wrap64 (t269 + (wrap64 (t268)))) : Int).toNat s0_0.size, s0_1)) else (none)) else (none)) else (none)) else (none)) else (some ((⟨#[]⟩ : ByteArray), s0_0, x7_8))) = some (r1, r2, r3) := by rw [if_neg (show ¬ (false = true) by decide)] at H; exact H
         clear H
         have H := H1
         clear H1
         by_cases c16 : x7_8 = 0
         ·rw [if_pos c16] at H
          have c16b0 : (x7_8 == 0) = true := beq_iff_eq.mpr c16
          have c16b1 : (x7_8 != 0) = false := bne_eq_false_iff_eq.mpr c16
          clear c16
          by_cases c17 : 0 ≤ t269
          ·rw [if_pos c17] at H
           have c17b0 := eq_true c17
           have c17b1 : decide (0 ≤ t269) = true := decide_eq_true c17
           clear c17
           by_cases c18 : t269 ≤ (wrap64 (t269 + (wrap64 (t268))))
           ·rw [if_pos c18] at H
            have c18b0 := eq_true c18
            have c18b1 : decide (t269 ≤ (wrap64 (t269 + (wrap64 (t268))))) = true := decide_eq_true c18
            by_cases c19 : (wrap64 (t269 + (wrap64 (t268)))) ≤ (s0_0.size : Int)
            ·rw [if_pos c19] at H
             have c19b0 := eq_true c19
             have c19b1 : decide ((wrap64 (t269 + (wrap64 (t268)))) ≤ (s0_0.size : Int)) = true := decide_eq_true c19
             obtain ⟨ji20, hji20⟩ : ∃ j_ : Int, (wrap64 (t269 + (wrap64 (t268)))) = j_ := ⟨_, rfl⟩
             replace H : (if 0 ≤ (ji20) then (some (s0_0.extract (t269 : Int).toNat ((ji20) : Int).toNat, s0_0.extract ((ji20) : Int).toNat s0_0.size, s0_1)) else (none)) = some (r1, r2, r3) := by first | (rw [hji20] at H; exact H) | (simp only [hji20] at H ⊢; exact H)
             (try rw [hji20] at c18b0)
             (try rw [hji20] at c18b1)
             (try rw [hji20] at c18)
             (try rw [hji20] at c19b0)
             (try rw [hji20] at c19b1)
             (try rw [hji20] at c19)
             have hji20w : (IntKind.i64.wrap (t269 + (wrap64 (t268)))) = ji20 := (i64_w _).trans hji20
             by_cases c21 : 0 ≤ (ji20)
             ·rw [if_pos c21] at H
              have c21b0 := eq_true c21
              have c21b1 : decide (0 ≤ (ji20)) = true := decide_eq_true c21
              clear c21
              have c22b0 := eq_true (of_decide_eq_true (by first | (with_reducible assumption) | assumption) : (ji20) ≤ (s0_0.size : Int))
              simp only [Option.some.injEq, Prod.mk.injEq] at H
              obtain ⟨rfl, rfl, rfl⟩ := H
              obtain ⟨HGz23, hgz23⟩ := HI0.out
              have hcz23_0 := cellS69_0 HGz23
              have hcz23_1 := cellS69_1 HGz23
              have hfz23_0 := blk_frozen HGz23 0
              have hfz23_1 := blk_frozen HGz23 1
              clear HGz23 hgz23
              go_wp2
              go_ret
              exact ⟨by first | rfl | (simp [errW_none, errW_some] <;> rfl) | (simp only [← hji20]; first | rfl | (simp [errW_none, errW_some] <;> rfl)) | (simp [*, errW_none, errW_some] <;> rfl), by repeat (first | (with_reducible first | exact HI0.out | apply IsS69.alloc | apply IsS69.drewN | apply IsS69.drew | apply IsS69.set_0 | apply IsS69.set_1) | exact HI0.out), by repeat (first | (with_reducible first | exact HB.out | apply below_alloc | apply pw_below_drewN | apply below_drew1 | refine below_set ?_ (IsS69.ge HI0.out)) | exact HB.out), by repeat (first | (with_reducible first | exact HK.out | apply KeepBut.set_ | apply keep_drewN | apply keep_drew | apply keep_alloc) | exact HK.out)⟩
             ·rw [if_neg c21] at H
              exact absurd H (by simp)
            ·rw [if_neg c19] at H
             exact absurd H (by simp)
           ·rw [if_neg c18] at H
            exact absurd H (by simp)
          ·rw [if_neg c17] at H
           exact absurd H (by simp)
         ·rw [if_neg c16] at H
          have c16b0 : (x7_8 == 0) = false := beq_eq_false_iff_ne.mpr c16
          have c16b1 : (x7_8 != 0) = true := bne_iff_ne.mpr c16
          simp only [Option.some.injEq, Prod.mk.injEq] at H
          obtain ⟨rfl, rfl, rfl⟩ := H
          obtain ⟨HGz24, hgz24⟩ := HI0.out
          have hcz24_0 := cellS69_0 HGz24
          have hcz24_1 := cellS69_1 HGz24
          have hfz24_0 := blk_frozen HGz24 0
          have hfz24_1 := blk_frozen HGz24 1
          clear HGz24 hgz24
          go_wp2
          go_ret
          exact ⟨by first | rfl | (simp [errW_none, errW_some] <;> rfl) | (simp [*, errW_none, errW_some] <;> rfl), by repeat (first | (with_reducible first | exact HI0.out | apply IsS69.alloc | apply IsS69.drewN | apply IsS69.drew | apply IsS69.set_0 | apply IsS69.set_1) | exact HI0.out), by repeat (first | (with_reducible first | exact HB.out | apply below_alloc | apply pw_below_drewN | apply below_drew1 | refine below_set ?_ (IsS69.ge HI0.out)) | exact HB.out), by repeat (first | (with_reducible first | exact HK.out | apply KeepBut.set_ | apply keep_drewN | apply keep_drew | apply keep_alloc) | exact HK.out)⟩
 ·rw [if_neg c3] at H
  have c3b0 : (s0_1 == 0) = false := beq_eq_false_iff_ne.mpr c3
  have c3b1 : (s0_1 != 0) = true := bne_iff_ne.mpr c3
  simp only [Option.some.injEq, Prod.mk.injEq] at H
  obtain ⟨rfl, rfl, rfl⟩ := H
  obtain ⟨HGz25, hgz25⟩ := HI0.out
  have hcz25_0 := cellS69_0 HGz25
  have hcz25_1 := cellS69_1 HGz25
  have hfz25_0 := blk_frozen HGz25 0
  have hfz25_1 := blk_frozen HGz25 1
  clear HGz25 hgz25
  go_enter Tryz.func59, Tryz.ntmps59
  go_wp2
  go_ret
  exact ⟨by first | rfl | (simp [errW_none, errW_some] <;> rfl) | (simp [*, errW_none, errW_some] <;> rfl), by repeat (first | (with_reducible first | exact HI0.out | apply IsS69.alloc | apply IsS69.drewN | apply IsS69.drew | apply IsS69.set_0 | apply IsS69.set_1) | exact HI0.out), by repeat (first | (with_reducible first | exact HB.out | apply below_alloc | apply pw_below_drewN | apply below_drew1 | refine below_set ?_ (IsS69.ge HI0.out)) | exact HB.out), by repeat (first | (with_reducible first | exact HK.out | apply KeepBut.set_ | apply keep_drewN | apply keep_drew | apply keep_alloc) | exact HK.out)⟩

end Go.Proofs.YtofdpgcnconibaaGreatDoor.PA
