-- WRITTEN BY a program of this session (pp.sh)
import Derived.Test.YtofdpgcnconibaaGreatDoorPAx0
import Derived.Test.YtofdpgcnconibaaGreatDoorPAx22
import Derived.Test.YtofdpgcnconibaaGreatDoorPAx23
set_option linter.unusedVariables false
set_option linter.unusedSimpArgs false
namespace Go.Proofs.YtofdpgcnconibaaGreatDoor.PA
open Go.RowKit Go.Proofs.YtofdpgcnconibaaGreatDoorW.PrintWords Go.Proofs.YtofdpgcnconibaaGreatDoorW.PrintLast Go.Proofs.YtofdpgcnconibaaGreatDoorW.PrintMore Go.Proofs.YtofdpgcnconibaaGreatDoor.Plain
attribute [local go_sem] max2_int min2_int max_two min_two max_three min_three max_four min_four binOp_leq_s binOp_gtr_s binOp_geq_s lit_byte   -- for this text's walks alone
set_option linter.unusedVariables false
set_option linter.unusedSimpArgs false

/-! ### pack_Reader_Text: function 50 -/
def pack_Reader_Text.j0 : Nat → Int → Int → Bool → ByteArray → Int → Int → Option (ByteArray × ByteArray × Int × Int)
 | 0, _, _, _, _, _, _ => none
 | k + 1, x5, x6, x25, x1000, x1001, x1002 => if x25 = true then (some ((⟨#[]⟩ : ByteArray), x1000, x5, 22)) else (if x6 > (IntKind.u64.wrap (wrap64 ((x1000.size : Int) - x1001))) then (some ((⟨#[]⟩ : ByteArray), x1000, x5, 20)) else ((pack_Reader_take.f x1000 x1001 x1002 (wrap64 (x6))).bind fun bt248 => (some (bt248.1, bt248.2.1, bt248.2.2.1, bt248.2.2.2))))
def pack_Reader_Text.f (k : Nat) (s0_0 : ByteArray) (s0_1 : Int) (s0_2 : Int) (a1 : Int) : Option (ByteArray × ByteArray × Int × Int) := (pack_Reader_fails.f s0_0 s0_1 s0_2).bind fun bt240 => (if bt240.1 = true then (some ((⟨#[]⟩ : ByteArray), bt240.2.1, bt240.2.2.1, bt240.2.2.2)) else ((pack_Reader_Short.f bt240.2.1 bt240.2.2.1 bt240.2.2.2).bind fun bt244 => (if bt244.2.2.2 = 0 then (if a1 < 0 then (pack_Reader_Text.j0 k bt240.2.2.1 bt244.1 true bt244.2.1 bt244.2.2.1 bt244.2.2.2) else (pack_Reader_Text.j0 k bt240.2.2.1 bt244.1 (decide (bt244.1 > (IntKind.u64.wrap (a1)))) bt244.2.1 bt244.2.2.1 bt244.2.2.2)) else (some ((⟨#[]⟩ : ByteArray), bt244.2.1, bt240.2.2.1, bt244.2.2.2)))))
set_option maxHeartbeats 8000000 in
set_option maxRecDepth 100000 in
theorem pack_Reader_Text.calls (k : Nat) (g : Nat) (s0_0 : ByteArray) (s0_1 : Int) (s0_2 : Int) (a1 : Int) (r1 : ByteArray) (r2 : ByteArray) (r3 : Int) (r4 : Int) (w0 w : World) (hI : IsS125 w0 w g s0_0 s0_1 s0_2) (hB : Below w0.heap.size w0 w) (h : pack_Reader_Text.f k s0_0 s0_1 s0_2 a1 = some (r1, r2, r3, r4)) :
  Calls Tryz.prog 50 #[.pointer (some ⟨g, 0, none⟩), .int .i64 a1] w fun e w' => e = .returned (.string r1) ∧ IsS125 w0 w' g r2 r3 r4 ∧ Below w0.heap.size w0 w' ∧ KeepBut w w' g none := by
 have HI0 := Aside0.mk hI
 have HK := Aside0.mk (KeepBut.refl w g none)
 have HL := Aside0.mk hB.size
 clear hI
 have HW0 := Aside0.mk hB.size
 have HB := Aside0.mk hB
 clear hB
 have H : ((pack_Reader_fails.f s0_0 s0_1 s0_2).bind fun ql => (if ql.1 = true then (some ((⟨#[]⟩ : ByteArray), ql.2.1, ql.2.2.1, ql.2.2.2)) else ((pack_Reader_Short.f ql.2.1 ql.2.2.1 ql.2.2.2).bind fun qb => (if qb.2.2.2 = 0 then (if a1 < 0 then (pack_Reader_Text.j0 k ql.2.2.1 qb.1 true qb.2.1 qb.2.2.1 qb.2.2.2) else (pack_Reader_Text.j0 k ql.2.2.1 qb.1 (decide (qb.1 > (IntKind.u64.wrap (a1)))) qb.2.1 qb.2.2.1 qb.2.2.2)) else (some ((⟨#[]⟩ : ByteArray), qb.2.1, ql.2.2.1, qb.2.2.2)))))) = some (r1, r2, r3, r4) := h
 clear h
 replace H := Option.bind_eq_some_iff.mp H
 obtain ⟨⟨qab, qo, qd, qn⟩, A30, H⟩ := H
 replace H : (if qab = true then (some ((⟨#[]⟩ : ByteArray), qo, qd, qn)) else ((pack_Reader_Short.f qo qd qn).bind fun qb => (if qb.2.2.2 = 0 then (if a1 < 0 then (pack_Reader_Text.j0 k qd qb.1 true qb.2.1 qb.2.2.1 qb.2.2.2) else (pack_Reader_Text.j0 k qd qb.1 (decide (qb.1 > (IntKind.u64.wrap (a1)))) qb.2.1 qb.2.2.1 qb.2.2.2)) else (some ((⟨#[]⟩ : ByteArray), qb.2.1, qd, qb.2.2.2))))) = some (r1, r2, r3, r4) := H
 have A3 := Aside0.mk A30
 clear A30
 by_cases c4 : qab = true
 ·subst c4
  have H1 : (some ((⟨#[]⟩ : ByteArray), qo, qd, qn)) = some (r1, r2, r3, r4) := by rw [if_pos rfl] at H; exact H
  clear H
  have H := H1
  clear H1
  simp only [Option.some.injEq, Prod.mk.injEq] at H
  obtain ⟨rfl, rfl, rfl, rfl⟩ := H
  go_enter Tryz.func50, Tryz.ntmps50
  go_wp2_with (first | (go_at_call 70; (with_reducible refine (pack_Reader_fails.calls g s0_0 s0_1 s0_2 true qo qd qn w0 _ ?side1 ?side2 A3.out).mono ?_); (case side1 => repeat (((with_reducible (exact HI0.out))))); (case side2 => repeat (((with_reducible (exact HB.out))))); rintro e w5 ⟨rfl, hi, hb, hk⟩; have n0_ := Aside0.mk (KeepBut.trans (by repeat (((with_reducible (exact HK.out))))) hk (.inl rfl)); have n1_ := Aside0.mk (hb); have n2_ := Aside0.mk (hi); clear HK; clear HB; clear HI0; have HK := n0_; have HB := n1_; have HI0 := n2_; clear n0_ n1_ n2_; (try clear hb); (try clear hb2); (try clear hk); (try clear hi)))
  repeat (go_quiet (fail); try go_wp2_with (fail))
  go_ret
  exact ⟨by (rfl), by repeat (((with_reducible (exact HI0.out)))), by repeat (((with_reducible (exact HB.out)))), by repeat (((with_reducible (exact HK.out))))⟩
 ·replace c4 := Bool.eq_false_iff.mpr c4
  subst c4
  have H1 : ((pack_Reader_Short.f qo qd qn).bind fun qb => (if qb.2.2.2 = 0 then (if a1 < 0 then (pack_Reader_Text.j0 k qd qb.1 true qb.2.1 qb.2.2.1 qb.2.2.2) else (pack_Reader_Text.j0 k qd qb.1 (decide (qb.1 > (IntKind.u64.wrap (a1)))) qb.2.1 qb.2.2.1 qb.2.2.2)) else (some ((⟨#[]⟩ : ByteArray), qb.2.1, qd, qb.2.2.2)))) = some (r1, r2, r3, r4) := by rw [if_neg (show ¬ (false = true) by decide)] at H; exact H
  clear H
  have H := H1
  clear H1
  replace H := Option.bind_eq_some_iff.mp H
  obtain ⟨⟨qk, qh, qm, qg⟩, A60, H⟩ := H
  replace H : (if qg = 0 then (if a1 < 0 then (pack_Reader_Text.j0 k qd qk true qh qm qg) else (pack_Reader_Text.j0 k qd qk (decide (qk > (IntKind.u64.wrap (a1)))) qh qm qg)) else (some ((⟨#[]⟩ : ByteArray), qh, qd, qg))) = some (r1, r2, r3, r4) := H
  have A6 := Aside0.mk A60
  clear A60
  by_cases c7 : qg = 0
  ·rw [if_pos c7] at H
   have c7b0 : (qg == 0) = true := beq_iff_eq.mpr c7
   have c7b1 : (qg != 0) = false := bne_eq_false_iff_eq.mpr c7
   clear c7
   have HC8 := Aside0.mk H
   clear H
   go_enter Tryz.func50, Tryz.ntmps50
   go_upto_region 7 with (first | (go_at_call 70; (with_reducible refine (pack_Reader_fails.calls g s0_0 s0_1 s0_2 false qo qd qn w0 _ ?side1 ?side2 A3.out).mono ?_); (case side1 => repeat (((with_reducible (exact HI0.out))))); (case side2 => repeat (((with_reducible (exact HB.out))))); rintro e w9 ⟨rfl, hi, hb, hk⟩; have n0_ := Aside0.mk (KeepBut.trans (by repeat (((with_reducible (exact HK.out))))) hk (.inl rfl)); have n1_ := Aside0.mk (hb); have n2_ := Aside0.mk (hi); clear HK; clear HB; clear HI0; have HK := n0_; have HB := n1_; have HI0 := n2_; clear n0_ n1_ n2_; (try clear hb); (try clear hb2); (try clear hk); (try clear hi); obtain ⟨HGz10, hgz10⟩ := HI0.out; have hcz10_0 := cellS125_0 HGz10; have hcz10_1 := cellS125_1 HGz10; have hcz10_2 := cellS125_2 HGz10; have hfz10_0 := blk_frozen HGz10 0; have hfz10_1 := blk_frozen HGz10 1; have hfz10_2 := blk_frozen HGz10 2; clear HGz10 hgz10) | (go_at_call 54; (with_reducible refine (pack_Reader_Short.calls g qo qd qn qk qh qm qg w0 _ ?side1 ?side2 A6.out).mono ?_); (case side1 => repeat (((with_reducible (exact HI0.out))))); (case side2 => repeat (((with_reducible (exact HB.out))))); rintro e w11 ⟨rfl, hi, hb, hk⟩; have n0_ := Aside0.mk (KeepBut.trans (by repeat (((with_reducible (exact HK.out))))) hk (.inl rfl)); have n1_ := Aside0.mk (hb); have n2_ := Aside0.mk (hi); clear HK; clear HB; clear HI0; have HK := n0_; have HB := n1_; have HI0 := n2_; clear n0_ n1_ n2_; (try clear hb); (try clear hb2); (try clear hk); (try clear hi); obtain ⟨HGz12, hgz12⟩ := HI0.out; have hcz12_0 := cellS125_0 HGz12; have hcz12_1 := cellS125_1 HGz12; have hcz12_2 := cellS125_2 HGz12; have hfz12_0 := blk_frozen HGz12 0; have hfz12_1 := blk_frozen HGz12 1; have hfz12_2 := blk_frozen HGz12 2; clear HGz12 hgz12))
   repeat (go_quiet (fail); go_upto_region 7 with (fail))
   (try simp only [Act.put, List.setIfInBounds_toArray, List.set_cons_zero, List.set_cons_succ])
   go_cut [25] (fun v25 wc => ∃ (kq : Nat) (qq : Bool), v25 = .bool qq ∧ Aside0 (pack_Reader_Text.j0 kq qd qk qq qh qm qg = some (r1, r2, r3, r4)) ∧ Aside0 (kq ≤ k) ∧ Aside0 (IsS125 w0 wc g qh qm qg) ∧ Aside0 (KeepBut w wc g none) ∧ Aside0 (Below w0.heap.size w0 wc))
   case first =>
    have H := HC8.out
    clear HC8
    by_cases c13 : a1 < 0
    ·rw [if_pos c13] at H
     have c13b0 : decide (a1 < 0) = true := decide_eq_true c13
     clear c13
     ((skip))
     have H' := Aside0.mk H
     clear H
     go_wp2
     repeat (go_quiet (fail); try go_wp2)
     go_meet
     case rel => exact ⟨_, (true), (by (rfl)), H', ⟨by (omega)⟩, ⟨by repeat (((with_reducible (exact HI0.out))))⟩, ⟨by repeat (((with_reducible (exact HK.out))))⟩, ⟨by repeat (((with_reducible (exact HB.out))))⟩⟩
    ·rw [if_neg c13] at H
     have c13b0 : decide (a1 < 0) = false := decide_eq_false c13
     clear c13
     ((skip))
     have H' := Aside0.mk H
     clear H
     go_wp2
     repeat (go_quiet (fail); try go_wp2)
     go_meet
     case rel => exact ⟨_, (decide (qk > (IntKind.u64.wrap (a1)))), (by (rfl)), H', ⟨by (omega)⟩, ⟨by repeat (((with_reducible (exact HI0.out))))⟩, ⟨by repeat (((with_reducible (exact HK.out))))⟩, ⟨by repeat (((with_reducible (exact HB.out))))⟩⟩
   case rest =>
    clear HC8
    try clear c1
    try clear p2
    try clear c4
    try clear c5
    try clear c7
    try clear c7b0
    try clear c7b1
    try clear c13
    try clear c13b0
    try clear hcz10_0
    try clear hcz10_1
    try clear hcz10_2
    try clear hcz12_0
    try clear hcz12_1
    try clear hcz12_2
    try clear hfz10_0
    try clear hfz10_1
    try clear hfz10_2
    try clear hfz12_0
    try clear hfz12_1
    try clear hfz12_2
    obtain ⟨kq, qq, rfl, HA, HJ7, HI0, HK, HB⟩ := hcut
    cases kq with
    | zero => exact absurd HA.out (by simp [pack_Reader_Text.j0])
    | succ kj7 =>
     have H := HA.out
     clear HA
     simp only [pack_Reader_Text.j0] at H
     by_cases c14 : qq = true
     ·subst c14
      have H1 : (some ((⟨#[]⟩ : ByteArray), qh, qd, 22)) = some (r1, r2, r3, r4) := by rw [if_pos rfl] at H; exact H
      clear H
      have H := H1
      clear H1
      simp only [Option.some.injEq, Prod.mk.injEq] at H
      obtain ⟨rfl, rfl, rfl, rfl⟩ := H
      obtain ⟨HGz15, hgz15⟩ := HI0.out
      have hcz15_0 := cellS125_0 HGz15
      have hcz15_1 := cellS125_1 HGz15
      have hcz15_2 := cellS125_2 HGz15
      have hfz15_0 := blk_frozen HGz15 0
      have hfz15_1 := blk_frozen HGz15 1
      have hfz15_2 := blk_frozen HGz15 2
      clear HGz15 hgz15
      go_wp2
      repeat (go_quiet (fail); try go_wp2)
      go_ret
      exact ⟨by (rfl), by repeat (((with_reducible first | exact HI0.out | apply IsS125.set_1 | apply IsS125.set_2))), by repeat (((with_reducible first | exact HB.out | refine below_set ?_ (IsS125.ge HI0.out)))), by repeat (((with_reducible first | exact HK.out | apply KeepBut.set_ )))⟩
     ·replace c14 := Bool.eq_false_iff.mpr c14
      subst c14
      have H1 : (if qk > (IntKind.u64.wrap (wrap64 ((qh.size : Int) - qm))) then (some ((⟨#[]⟩ : ByteArray), qh, qd, 20)) else ((pack_Reader_take.f qh qm qg (wrap64 (qk))).bind fun qp => (some (qp.1, qp.2.1, qp.2.2.1, qp.2.2.2)))) = some (r1, r2, r3, r4) := by rw [if_neg (show ¬ (false = true) by decide)] at H; exact H
      clear H
      have H := H1
      clear H1
      by_cases c16 : qk > (IntKind.u64.wrap (wrap64 ((qh.size : Int) - qm)))
      ·rw [if_pos c16] at H
       have c16b0 : decide ((IntKind.u64.wrap (wrap64 ((qh.size : Int) - qm))) < qk) = true := decide_eq_true c16
       clear c16
       simp only [Option.some.injEq, Prod.mk.injEq] at H
       obtain ⟨rfl, rfl, rfl, rfl⟩ := H
       obtain ⟨HGz17, hgz17⟩ := HI0.out
       have hcz17_0 := cellS125_0 HGz17
       have hcz17_1 := cellS125_1 HGz17
       have hcz17_2 := cellS125_2 HGz17
       have hfz17_0 := blk_frozen HGz17 0
       have hfz17_1 := blk_frozen HGz17 1
       have hfz17_2 := blk_frozen HGz17 2
       clear HGz17 hgz17
       go_wp2
       repeat (go_quiet (fail); try go_wp2)
       go_ret
       exact ⟨by (rfl), by repeat (((with_reducible first | exact HI0.out | apply IsS125.drewN | apply IsS125.set_1 | apply IsS125.set_2))), by repeat (((with_reducible first | exact HB.out | apply pw_below_drewN | refine below_set ?_ (IsS125.ge HI0.out)))), by repeat (((with_reducible first | exact HK.out | apply KeepBut.set_ | apply keep_drewN )))⟩
      ·rw [if_neg c16] at H
       have c16b0 : decide ((IntKind.u64.wrap (wrap64 ((qh.size : Int) - qm))) < qk) = false := decide_eq_false c16
       clear c16
       replace H := Option.bind_eq_some_iff.mp H
       obtain ⟨⟨qae, qac, qad, qaf⟩, A180, H⟩ := H
       replace H : (some (qae, qac, qad, qaf)) = some (r1, r2, r3, r4) := H
       have A18 := Aside0.mk A180
       clear A180
       simp only [Option.some.injEq, Prod.mk.injEq] at H
       obtain ⟨rfl, rfl, rfl, rfl⟩ := H
       obtain ⟨HGz19, hgz19⟩ := HI0.out
       have hcz19_0 := cellS125_0 HGz19
       have hcz19_1 := cellS125_1 HGz19
       have hcz19_2 := cellS125_2 HGz19
       have hfz19_0 := blk_frozen HGz19 0
       have hfz19_1 := blk_frozen HGz19 1
       have hfz19_2 := blk_frozen HGz19 2
       clear HGz19 hgz19
       go_wp2_with (fail)
       repeat (go_quiet (fail); try go_wp2_with (first | (go_at_call 71; (with_reducible refine (pack_Reader_take.calls g qh qm qg (wrap64 (qk)) qae qac qad qaf w0 _ ?side1 ?side2 A18.out).mono ?_); (case side1 => repeat (((with_reducible first | exact HI0.out | apply IsS125.drewN )))); (case side2 => repeat (((with_reducible first | exact HB.out | apply pw_below_drewN )))); rintro e w20 ⟨rfl, hi, hb, hk⟩; have n0_ := Aside0.mk (KeepBut.trans (by repeat (((with_reducible first | exact HK.out | apply keep_drewN )))) hk (.inl rfl)); have n1_ := Aside0.mk (hb); have n2_ := Aside0.mk (hi); clear HK; clear HB; clear HI0; have HK := n0_; have HB := n1_; have HI0 := n2_; clear n0_ n1_ n2_; (try clear hb); (try clear hb2); (try clear hk); (try clear hi))))
       go_ret
       exact ⟨by (rfl), by repeat (((with_reducible (exact HI0.out)))), by repeat (((with_reducible (exact HB.out)))), by repeat (((with_reducible (exact HK.out))))⟩
  ·rw [if_neg c7] at H
   have c7b0 : (qg == 0) = false := beq_eq_false_iff_ne.mpr c7
   have c7b1 : (qg != 0) = true := bne_iff_ne.mpr c7
   simp only [Option.some.injEq, Prod.mk.injEq] at H
   obtain ⟨rfl, rfl, rfl, rfl⟩ := H
   go_enter Tryz.func50, Tryz.ntmps50
   go_wp2_with (first | (go_at_call 70; (with_reducible refine (pack_Reader_fails.calls g s0_0 s0_1 s0_2 false qo qd qn w0 _ ?side1 ?side2 A3.out).mono ?_); (case side1 => repeat (((with_reducible (exact HI0.out))))); (case side2 => repeat (((with_reducible (exact HB.out))))); rintro e w21 ⟨rfl, hi, hb, hk⟩; have n0_ := Aside0.mk (KeepBut.trans (by repeat (((with_reducible (exact HK.out))))) hk (.inl rfl)); have n1_ := Aside0.mk (hb); have n2_ := Aside0.mk (hi); clear HK; clear HB; clear HI0; have HK := n0_; have HB := n1_; have HI0 := n2_; clear n0_ n1_ n2_; (try clear hb); (try clear hb2); (try clear hk); (try clear hi); obtain ⟨HGz22, hgz22⟩ := HI0.out; have hcz22_0 := cellS125_0 HGz22; have hcz22_1 := cellS125_1 HGz22; have hcz22_2 := cellS125_2 HGz22; have hfz22_0 := blk_frozen HGz22 0; have hfz22_1 := blk_frozen HGz22 1; have hfz22_2 := blk_frozen HGz22 2; clear HGz22 hgz22) | (go_at_call 54; (with_reducible refine (pack_Reader_Short.calls g qo qd qn qk qh qm qg w0 _ ?side1 ?side2 A6.out).mono ?_); (case side1 => repeat (((with_reducible (exact HI0.out))))); (case side2 => repeat (((with_reducible (exact HB.out))))); rintro e w23 ⟨rfl, hi, hb, hk⟩; have n0_ := Aside0.mk (KeepBut.trans (by repeat (((with_reducible (exact HK.out))))) hk (.inl rfl)); have n1_ := Aside0.mk (hb); have n2_ := Aside0.mk (hi); clear HK; clear HB; clear HI0; have HK := n0_; have HB := n1_; have HI0 := n2_; clear n0_ n1_ n2_; (try clear hb); (try clear hb2); (try clear hk); (try clear hi); obtain ⟨HGz24, hgz24⟩ := HI0.out; have hcz24_0 := cellS125_0 HGz24; have hcz24_1 := cellS125_1 HGz24; have hcz24_2 := cellS125_2 HGz24; have hfz24_0 := blk_frozen HGz24 0; have hfz24_1 := blk_frozen HGz24 1; have hfz24_2 := blk_frozen HGz24 2; clear HGz24 hgz24))
   repeat (go_quiet (fail); try go_wp2_with (fail))
   go_ret
   exact ⟨by (rfl), by repeat (((with_reducible first | exact HI0.out | apply IsS125.set_1 ))), by repeat (((with_reducible first | exact HB.out | refine below_set ?_ (IsS125.ge HI0.out)))), by repeat (((with_reducible first | exact HK.out | apply KeepBut.set_ )))⟩

/-! ### pack_Reader_Err: function 51 -/
def pack_Reader_Err.f (s0_0 : ByteArray) (s0_1 : Int) (s0_2 : Int) : Option (Int × ByteArray × Int × Int) := some (s0_2, s0_0, s0_1, s0_2)
set_option maxHeartbeats 8000000 in
set_option maxRecDepth 100000 in
theorem pack_Reader_Err.calls (g : Nat) (s0_0 : ByteArray) (s0_1 : Int) (s0_2 : Int) (r1 : Int) (r2 : ByteArray) (r3 : Int) (r4 : Int) (w0 w : World) (hI : IsS125 w0 w g s0_0 s0_1 s0_2) (hB : Below w0.heap.size w0 w) (h : pack_Reader_Err.f s0_0 s0_1 s0_2 = some (r1, r2, r3, r4)) :
  Calls Tryz.prog 51 #[.pointer (some ⟨g, 0, none⟩)] w fun e w' => e = .returned (.int .i64 r1) ∧ IsS125 w0 w' g r2 r3 r4 ∧ Below w0.heap.size w0 w' ∧ KeepBut w w' g none := by
 have HI0 := Aside0.mk hI
 have HK := Aside0.mk (KeepBut.refl w g none)
 have HL := Aside0.mk hB.size
 clear hI
 have HW0 := Aside0.mk hB.size
 have HB := Aside0.mk hB
 clear hB
 have H : (some (s0_2, s0_0, s0_1, s0_2)) = some (r1, r2, r3, r4) := h
 clear h
 simp only [Option.some.injEq, Prod.mk.injEq] at H
 obtain ⟨rfl, rfl, rfl, rfl⟩ := H
 obtain ⟨HGz2, hgz2⟩ := HI0.out
 have hcz2_0 := cellS125_0 HGz2
 have hcz2_1 := cellS125_1 HGz2
 have hcz2_2 := cellS125_2 HGz2
 have hfz2_0 := blk_frozen HGz2 0
 have hfz2_1 := blk_frozen HGz2 1
 have hfz2_2 := blk_frozen HGz2 2
 clear HGz2 hgz2
 go_enter Tryz.func51, Tryz.ntmps51
 go_wp2
 go_ret
 exact ⟨by (rfl), by repeat (((with_reducible (exact HI0.out)))), by repeat (((with_reducible (exact HB.out)))), by repeat (((with_reducible (exact HK.out))))⟩

/-! ### pack_Reader_Byte: function 52 -/
def pack_Reader_Byte.f (s0_0 : ByteArray) (s0_1 : Int) (s0_2 : Int) : Option (Int × ByteArray × Int × Int) := (pack_Reader_take.f s0_0 s0_1 s0_2 1).bind fun qc => (if qc.1.toList = ([] : List UInt8) then (some (0, qc.2.1, qc.2.2.1, qc.2.2.2)) else (if 0 < (qc.1.size : Int) then (some (bt qc.1 0, qc.2.1, qc.2.2.1, qc.2.2.2)) else (none)))
set_option maxHeartbeats 8000000 in
set_option maxRecDepth 100000 in
theorem pack_Reader_Byte.calls (g : Nat) (s0_0 : ByteArray) (s0_1 : Int) (s0_2 : Int) (r1 : Int) (r2 : ByteArray) (r3 : Int) (r4 : Int) (w0 w : World) (hI : IsS125 w0 w g s0_0 s0_1 s0_2) (hB : Below w0.heap.size w0 w) (h : pack_Reader_Byte.f s0_0 s0_1 s0_2 = some (r1, r2, r3, r4)) :
  Calls Tryz.prog 52 #[.pointer (some ⟨g, 0, none⟩)] w fun e w' => e = .returned (.int .u8 r1) ∧ IsS125 w0 w' g r2 r3 r4 ∧ Below w0.heap.size w0 w' ∧ KeepBut w w' g none := by
 have HI0 := Aside0.mk hI
 have HK := Aside0.mk (KeepBut.refl w g none)
 have HL := Aside0.mk hB.size
 clear hI
 have HW0 := Aside0.mk hB.size
 have HB := Aside0.mk hB
 clear hB
 have H : ((pack_Reader_take.f s0_0 s0_1 s0_2 1).bind fun qc => (if qc.1.toList = ([] : List UInt8) then (some (0, qc.2.1, qc.2.2.1, qc.2.2.2)) else (if 0 < (qc.1.size : Int) then (some (bt qc.1 0, qc.2.1, qc.2.2.1, qc.2.2.2)) else (none)))) = some (r1, r2, r3, r4) := h
 clear h
 replace H := Option.bind_eq_some_iff.mp H
 obtain ⟨⟨qe, qs, qt, qu⟩, A20, H⟩ := H
 replace H : (if qe.toList = ([] : List UInt8) then (some (0, qs, qt, qu)) else (if 0 < (qe.size : Int) then (some (bt qe 0, qs, qt, qu)) else (none))) = some (r1, r2, r3, r4) := H
 have A2 := Aside0.mk A20
 clear A20
 by_cases c3 : qe.toList = ([] : List UInt8)
 ·rw [if_pos c3] at H
  have c3b0 : (qe.toList == ([] : List UInt8)) = true := beq_iff_eq.mpr c3
  have c3b1 : (qe.toList != ([] : List UInt8)) = false := bne_eq_false_iff_eq.mpr c3
  clear c3
  simp only [Option.some.injEq, Prod.mk.injEq] at H
  obtain ⟨rfl, rfl, rfl, rfl⟩ := H
  go_enter Tryz.func52, Tryz.ntmps52
  go_wp2_with (first | ((with_reducible refine gate_callee (f := 71) rfl ?_); refine goesL_ (some 5) rfl rfl Tryz.func71 (by kernel_rfl) rfl #[.pointer (some ⟨g, 0, none⟩), .int .i64 1] rfl (by (try simp only [List.map_toArray, List.map_cons, List.map_nil]); (rfl)) ?_; (with_reducible refine (pack_Reader_take.calls g s0_0 s0_1 s0_2 1 qe qs qt qu w0 _ ?side1 ?side2 A2.out).mono ?_); (case side1 => repeat (((with_reducible (exact HI0.out))))); (case side2 => repeat (((with_reducible (exact HB.out))))); rintro e w4 ⟨rfl, hi, hb, hk⟩; refine ⟨_, rfl, ?_⟩; have n0_ := Aside0.mk (KeepBut.trans (by repeat (((with_reducible (exact HK.out))))) hk (.inl rfl)); have n1_ := Aside0.mk (hb); have n2_ := Aside0.mk (hi); clear HK; clear HB; clear HI0; have HK := n0_; have HB := n1_; have HI0 := n2_; clear n0_ n1_ n2_; (try clear hb); (try clear hb2); (try clear hk); (try clear hi)))
  go_ret
  exact ⟨by (rfl), by repeat (((with_reducible (exact HI0.out)))), by repeat (((with_reducible (exact HB.out)))), by repeat (((with_reducible (exact HK.out))))⟩
 ·rw [if_neg c3] at H
  have c3b0 : (qe.toList == ([] : List UInt8)) = false := beq_eq_false_iff_ne.mpr c3
  have c3b1 : (qe.toList != ([] : List UInt8)) = true := bne_iff_ne.mpr c3
  by_cases c5 : 0 < (qe.size : Int)
  ·rw [if_pos c5] at H
   have c5b0 : decide (0 < (qe.size : Int)) = true := decide_eq_true c5
   have c5b1 : decide (0 < qe.size) = true := decide_eq_true (by omega)
   clear c5
   simp only [Option.some.injEq, Prod.mk.injEq] at H
   obtain ⟨rfl, rfl, rfl, rfl⟩ := H
   go_enter Tryz.func52, Tryz.ntmps52
   go_wp2_with (first | ((with_reducible refine gate_callee (f := 71) rfl ?_); refine goesL_ (some 5) rfl rfl Tryz.func71 (by kernel_rfl) rfl #[.pointer (some ⟨g, 0, none⟩), .int .i64 1] rfl (by (try simp only [List.map_toArray, List.map_cons, List.map_nil]); (rfl)) ?_; (with_reducible refine (pack_Reader_take.calls g s0_0 s0_1 s0_2 1 qe qs qt qu w0 _ ?side1 ?side2 A2.out).mono ?_); (case side1 => repeat (((with_reducible (exact HI0.out))))); (case side2 => repeat (((with_reducible (exact HB.out))))); rintro e w7 ⟨rfl, hi, hb, hk⟩; refine ⟨_, rfl, ?_⟩; have n0_ := Aside0.mk (KeepBut.trans (by repeat (((with_reducible (exact HK.out))))) hk (.inl rfl)); have n1_ := Aside0.mk (hb); have n2_ := Aside0.mk (hi); clear HK; clear HB; clear HI0; have HK := n0_; have HB := n1_; have HI0 := n2_; clear n0_ n1_ n2_; (try clear hb); (try clear hb2); (try clear hk); (try clear hi); have p6 : 0 ≤ (0 : Int) := (by omega); have q6 : 0 < qe.size := (by have : (0 : Int) < (qe.size : Int) := of_decide_eq_true (by ((with_reducible assumption))); omega); have hx6 : ∀ h : 0 < qe.size, ((qe[0]'h).toNat : Int) = bt qe 0 := bt_at qe 0; clear p6; have qi6 : (0 < (qe.size : Int)) = True := eq_true (of_decide_eq_true (by ((with_reducible assumption)))); replace q6 := eq_true q6))
   go_ret
   exact ⟨by (rfl), by repeat (((with_reducible (exact HI0.out)))), by repeat (((with_reducible (exact HB.out)))), by repeat (((with_reducible (exact HK.out))))⟩
  ·rw [if_neg c5] at H
   exact absurd H (by simp)

/-! ### pack_Reader_Fixed: function 53 -/
def pack_Reader_Fixed.l0 : Nat → Int → ByteArray → Int → Int → ByteArray → Int → Int → Option (Int × ByteArray × Int × Int)
 | 0, _, _, _, _, _, _, _ => none
 | k + 1, x3, x4, x9, qx, qz, qy, qaa => if qx < x9 then (if 0 ≤ qx then (if qx < (x4.size : Int) then (pack_Reader_Fixed.l0 k (IntKind.u64.wrap ((IntKind.u64.wrap (x3 * 256)) + (IntKind.u64.wrap (bt x4 qx)))) x4 x9 (wrap64 (qx + 1)) qz qy qaa) else (none)) else (none)) else (some (x3, qz, qy, qaa))
def pack_Reader_Fixed.f (k : Nat) (s0_0 : ByteArray) (s0_1 : Int) (s0_2 : Int) : Option (Int × ByteArray × Int × Int) := (pack_Reader_take.f s0_0 s0_1 s0_2 8).bind fun qi => (pack_Reader_Fixed.l0 k 0 qi.1 (qi.1.size : Int) 0 qi.2.1 qi.2.2.1 qi.2.2.2)
set_option maxHeartbeats 8000000 in
set_option maxRecDepth 100000 in
theorem pack_Reader_Fixed.calls (k : Nat) (g : Nat) (s0_0 : ByteArray) (s0_1 : Int) (s0_2 : Int) (r1 : Int) (r2 : ByteArray) (r3 : Int) (r4 : Int) (w0 w : World) (hI : IsS125 w0 w g s0_0 s0_1 s0_2) (hB : Below w0.heap.size w0 w) (h : pack_Reader_Fixed.f k s0_0 s0_1 s0_2 = some (r1, r2, r3, r4)) :
  Calls Tryz.prog 53 #[.pointer (some ⟨g, 0, none⟩)] w fun e w' => e = .returned (.int .u64 r1) ∧ IsS125 w0 w' g r2 r3 r4 ∧ Below w0.heap.size w0 w' ∧ KeepBut w w' g none := by
 have HI0 := Aside0.mk hI
 have HK := Aside0.mk (KeepBut.refl w g none)
 have HL := Aside0.mk hB.size
 clear hI
 have HW0 := Aside0.mk hB.size
 have HB := Aside0.mk hB
 clear hB
 have H : ((pack_Reader_take.f s0_0 s0_1 s0_2 8).bind fun qi => (pack_Reader_Fixed.l0 k 0 qi.1 (qi.1.size : Int) 0 qi.2.1 qi.2.2.1 qi.2.2.2)) = some (r1, r2, r3, r4) := h
 clear h
 replace H := Option.bind_eq_some_iff.mp H
 obtain ⟨⟨qj, qw, qr, qv⟩, A20, H⟩ := H
 replace H : (pack_Reader_Fixed.l0 k 0 qj (qj.size : Int) 0 qw qr qv) = some (r1, r2, r3, r4) := H
 have A2 := Aside0.mk A20
 clear A20
 have H' := Aside0.mk H
 clear H
 go_enter Tryz.func53, Tryz.ntmps53
 go_wp2_with (first | ((with_reducible refine gate_callee (f := 71) rfl ?_); refine goesL_ (some 7) rfl rfl Tryz.func71 (by kernel_rfl) rfl #[.pointer (some ⟨g, 0, none⟩), .int .i64 8] rfl (by (try simp only [List.map_toArray, List.map_cons, List.map_nil]); (rfl)) ?_; (with_reducible refine (pack_Reader_take.calls g s0_0 s0_1 s0_2 8 qj qw qr qv w0 _ ?side1 ?side2 A2.out).mono ?_); (case side1 => repeat (((with_reducible (exact HI0.out))))); (case side2 => repeat (((with_reducible (exact HB.out))))); rintro e w3 ⟨rfl, hi, hb, hk⟩; refine ⟨_, rfl, ?_⟩; have n0_ := Aside0.mk (KeepBut.trans (by repeat (((with_reducible (exact HK.out))))) hk (.inl rfl)); have n1_ := Aside0.mk (hb); have n2_ := Aside0.mk (hi); clear HK; clear HB; clear HI0; have HK := n0_; have HB := n1_; have HI0 := n2_; clear n0_ n1_ n2_; (try clear hb); (try clear hb2); (try clear hk); (try clear hi)))
 go_loopg [3, 10] k (fun kq v3 v10 w' => ∃ (x3_1 : Int) (qf : Int), v3 = .int .u64 x3_1 ∧ v10 = .int .i64 qf ∧ Aside0 (pack_Reader_Fixed.l0 kq x3_1 qj (qj.size : Int) qf qw qr qv = some (r1, r2, r3, r4)) ∧ Aside0 (kq ≤ k) ∧ Aside0 (IsS125 w0 w' g qw qr qv) ∧ Aside0 (KeepBut w w' g none) ∧ Aside0 (Below w0.heap.size w0 w'))
 case atStart => exact ⟨(0), (0), (by (rfl)), (by (rfl)), H', ⟨Nat.le_refl _⟩, ⟨by repeat (((with_reducible (exact HI0.out))))⟩, ⟨by repeat (((with_reducible (exact HK.out))))⟩, ⟨by repeat (((with_reducible (exact HB.out))))⟩⟩
 case round =>
  clear H'
  try clear p2
  obtain ⟨x3_1, qf, rfl, rfl, HA, HK1, HI0, HK, HB⟩ := hrel
  cases gk with
  | zero => exact absurd HA.out (by simp [pack_Reader_Fixed.l0])
  | succ k1 =>
   have H := HA.out
   clear HA
   simp only [pack_Reader_Fixed.l0] at H
   by_cases c4 : qf < (qj.size : Int)
   ·rw [if_pos c4] at H
    have c4b0 : decide (qf < (qj.size : Int)) = true := decide_eq_true c4
    clear c4
    by_cases c5 : 0 ≤ qf
    ·rw [if_pos c5] at H
     have c5b0 : decide (0 ≤ qf) = true := decide_eq_true c5
     clear c5
     by_cases c6 : qf < (qj.size : Int)
     ·rw [if_pos c6] at H
      have c6b0 : decide (qf < (qj.size : Int)) = true := decide_eq_true c6
      clear c6
      have H' := Aside0.mk H
      clear H
      have p7 : 0 ≤ (qf : Int) := of_decide_eq_true (by ((with_reducible assumption)))
      have q7 : qf < (qj.size : Int) := of_decide_eq_true (by ((with_reducible assumption)))
      have hx7 := bt_at qj qf
      replace p7 := eq_true p7
      replace q7 := eq_true q7
      go_wp2
      go_roundg k1
      case measure => have := HK1.out; omega
      case rel => exact ⟨(IntKind.u64.wrap ((IntKind.u64.wrap (x3_1 * 256)) + (IntKind.u64.wrap (bt qj qf)))), (wrap64 (qf + 1)), (by (rfl)), (by (rfl)), H', ⟨by have := HK1.out; omega⟩, ⟨by repeat (((with_reducible (exact HI0.out))))⟩, ⟨by repeat (((with_reducible (exact HK.out))))⟩, ⟨by repeat (((with_reducible (exact HB.out))))⟩⟩
     ·rw [if_neg c6] at H
      exact absurd H (by simp)
    ·rw [if_neg c5] at H
     exact absurd H (by simp)
   ·rw [if_neg c4] at H
    have c4b0 : decide (qf < (qj.size : Int)) = false := decide_eq_false c4
    clear c4
    simp only [Option.some.injEq, Prod.mk.injEq] at H
    obtain ⟨rfl, rfl, rfl, rfl⟩ := H
    go_wp2
    go_ret
    exact ⟨by (rfl), by repeat (((with_reducible (exact HI0.out)))), by repeat (((with_reducible (exact HB.out)))), by repeat (((with_reducible (exact HK.out))))⟩

end Go.Proofs.YtofdpgcnconibaaGreatDoor.PA
