-- WRITTEN BY a program of this session (pp.sh)
import Derived.Test.YtofdpgcnconibaaGreatDoorPAx0
import Derived.Test.YtofdpgcnconibaaGreatDoorPAx2
set_option linter.unusedVariables false
set_option linter.unusedSimpArgs false
namespace Go.Proofs.YtofdpgcnconibaaGreatDoor.PA
open Go.RowKit Go.Proofs.YtofdpgcnconibaaGreatDoorW.PrintWords Go.Proofs.YtofdpgcnconibaaGreatDoorW.PrintLast Go.Proofs.YtofdpgcnconibaaGreatDoorW.PrintMore Go.Proofs.YtofdpgcnconibaaGreatDoor.Plain
attribute [local go_sem] max2_int min2_int max_two min_two max_three min_three max_four min_four binOp_leq_s binOp_gtr_s binOp_geq_s lit_byte   -- for this text's walks alone
set_option linter.unusedVariables false
set_option linter.unusedSimpArgs false

attribute [local go_sem high] eqA30
/-! ### coppiceref19_Great: function 9 -/
def coppiceref19_Great.l0 : Nat → List (S23) → Int → Option (Bool)
 | 0, _, _ => none
 | k + 1, x0, x3 => if x3 < (x0.length : Int) then (if 0 ≤ x3 then (if (((rd_T23 x0 x3).f1).size : Int) > 1500 then (some true) else (if (((rd_T23 x0 x3).f2).size : Int) > 1500 then (some true) else (if (((rd_T23 x0 x3).f3).size : Int) > 400 then (some true) else (if (((rd_T23 x0 x3).f5).size : Int) > 400 then (some true) else (coppiceref19_Great.l0 k x0 (wrap64 (x3 + 1))))))) else (none)) else (some false)
def coppiceref19_Great.f (k : Nat) (l0 : List (S23)) : Option (Bool) := if (l0.length : Int) > 300 then (some true) else (coppiceref19_Great.l0 k l0 0)
set_option maxHeartbeats 8000000 in
set_option maxRecDepth 100000 in
theorem coppiceref19_Great.calls (k : Nat) (A0 : Option Addr) (c0 : Nat) (l0 : List (S23)) (r : Bool) (w : World) (hr0 : Kd.C k23 w A0 l0.length l0) (hc0 : l0.length ≤ c0) (h : coppiceref19_Great.f k l0 = some r) :
  Calls Tryz.prog 9 #[.slice A0 l0.length c0] w fun e w' => e = .returned (.bool r) ∧ Drawn0 w w' := by
 have HR0 := Aside0.mk hr0
 have HC0 := Aside0.mk hc0
 clear hr0 hc0
 have H : (if (l0.length : Int) > 300 then (some true) else (coppiceref19_Great.l0 k l0 0)) = some r := h
 clear h
 by_cases c2 : (l0.length : Int) > 300
 ·rw [if_pos c2] at H
  have c2b0 : decide (300 < (l0.length : Int)) = true := decide_eq_true c2
  have c2b1 : decide (300 < l0.length) = true := decide_eq_true (by omega)
  clear c2
  obtain rfl := Option.some.inj H
  go_enter Tryz.func9, Tryz.ntmps9
  go_wp2
  go_ret
  exact ⟨by (rfl), by repeat ((exact Drawn0.refl _))⟩
 ·rw [if_neg c2] at H
  have c2b0 : decide (300 < (l0.length : Int)) = false := decide_eq_false c2
  have c2b1 : decide (300 < l0.length) = false := decide_eq_false (by omega)
  clear c2
  have H' := Aside0.mk H
  clear H
  go_enter Tryz.func9, Tryz.ntmps9
  go_wp2
  go_loopg [3] k (fun kq v3 w' => ∃ (x3_1 : Int), v3 = .int .i64 x3_1 ∧ Aside0 (coppiceref19_Great.l0 kq l0 x3_1 = some r) ∧ Aside0 (kq ≤ k) ∧ Drawn0 w w')
  case atStart => exact ⟨(0), (by (rfl)), H', ⟨Nat.le_refl _⟩, by repeat ((exact Drawn0.refl _))⟩
  case round =>
   clear H'
   try clear c2
   try clear c2b0
   try clear c2b1
   try clear p2
   obtain ⟨x3_1, rfl, HA, HK1, ⟨m1, rfl⟩⟩ := hrel
   cases gk with
   | zero => exact absurd HA.out (by simp [coppiceref19_Great.l0])
   | succ k1 =>
    have H := HA.out
    clear HA
    simp only [coppiceref19_Great.l0] at H
    by_cases c3 : x3_1 < (l0.length : Int)
    ·rw [if_pos c3] at H
     have c3b0 : decide (x3_1 < (l0.length : Int)) = true := decide_eq_true c3
     clear c3
     by_cases c4 : 0 ≤ x3_1
     ·rw [if_pos c4] at H
      have c4b0 : decide (0 ≤ x3_1) = true := decide_eq_true c4
      clear c4
      by_cases c5 : (((rd_T23 l0 x3_1).f1).size : Int) > 1500
      ·rw [if_pos c5] at H
       have c5b0 : decide (1500 < (((rd_T23 l0 x3_1).f1).size : Int)) = true := decide_eq_true c5
       have c5b1 : decide (1500 < ((rd_T23 l0 x3_1).f1).size) = true := decide_eq_true (by omega)
       clear c5
       obtain rfl := Option.some.inj H
       have p172 : 0 ≤ (x3_1 : Int) := of_decide_eq_true (by ((with_reducible assumption)))
       have q172 : x3_1 < (l0.length : Int) := of_decide_eq_true (by ((with_reducible assumption)))
       obtain ⟨ad172, e172, hx172_0, hx172_1, hx172_2, hx172_3, hx172_4, hx172_5⟩ := at_T23 HR0.out x3_1 p172 q172
       cases e172
       replace p172 := eq_true p172
       replace q172 := eq_true q172
       go_wp2
       go_ret
       exact ⟨by (rfl), by repeat (first | exact Drawn0.refl _ | apply Drawn0.step)⟩
      ·rw [if_neg c5] at H
       have c5b0 : decide (1500 < (((rd_T23 l0 x3_1).f1).size : Int)) = false := decide_eq_false c5
       have c5b1 : decide (1500 < ((rd_T23 l0 x3_1).f1).size) = false := decide_eq_false (by omega)
       clear c5
       by_cases c6 : (((rd_T23 l0 x3_1).f2).size : Int) > 1500
       ·rw [if_pos c6] at H
        have c6b0 : decide (1500 < (((rd_T23 l0 x3_1).f2).size : Int)) = true := decide_eq_true c6
        have c6b1 : decide (1500 < ((rd_T23 l0 x3_1).f2).size) = true := decide_eq_true (by omega)
        clear c6
        obtain rfl := Option.some.inj H
        have p172 : 0 ≤ (x3_1 : Int) := of_decide_eq_true (by ((with_reducible assumption)))
        have q172 : x3_1 < (l0.length : Int) := of_decide_eq_true (by ((with_reducible assumption)))
        obtain ⟨ad172, e172, hx172_0, hx172_1, hx172_2, hx172_3, hx172_4, hx172_5⟩ := at_T23 HR0.out x3_1 p172 q172
        cases e172
        replace p172 := eq_true p172
        replace q172 := eq_true q172
        have p173 : 0 ≤ (x3_1 : Int) := of_decide_eq_true (by ((with_reducible assumption)))
        have q173 : x3_1 < (l0.length : Int) := of_decide_eq_true (by ((with_reducible assumption)))
        obtain ⟨ad173, e173, hx173_0, hx173_1, hx173_2, hx173_3, hx173_4, hx173_5⟩ := at_T23 HR0.out x3_1 p173 q173
        obtain rfl : ad172 = ad173 := (by injection e173)
        replace p173 := eq_true p173
        replace q173 := eq_true q173
        go_wp2
        go_ret
        exact ⟨by (rfl), by repeat (first | exact Drawn0.refl _ | apply Drawn0.step)⟩
       ·rw [if_neg c6] at H
        have c6b0 : decide (1500 < (((rd_T23 l0 x3_1).f2).size : Int)) = false := decide_eq_false c6
        have c6b1 : decide (1500 < ((rd_T23 l0 x3_1).f2).size) = false := decide_eq_false (by omega)
        clear c6
        by_cases c7 : (((rd_T23 l0 x3_1).f3).size : Int) > 400
        ·rw [if_pos c7] at H
         have c7b0 : decide (400 < (((rd_T23 l0 x3_1).f3).size : Int)) = true := decide_eq_true c7
         have c7b1 : decide (400 < ((rd_T23 l0 x3_1).f3).size) = true := decide_eq_true (by omega)
         clear c7
         obtain rfl := Option.some.inj H
         have p172 : 0 ≤ (x3_1 : Int) := of_decide_eq_true (by ((with_reducible assumption)))
         have q172 : x3_1 < (l0.length : Int) := of_decide_eq_true (by ((with_reducible assumption)))
         obtain ⟨ad172, e172, hx172_0, hx172_1, hx172_2, hx172_3, hx172_4, hx172_5⟩ := at_T23 HR0.out x3_1 p172 q172
         cases e172
         replace p172 := eq_true p172
         replace q172 := eq_true q172
         have p173 : 0 ≤ (x3_1 : Int) := of_decide_eq_true (by ((with_reducible assumption)))
         have q173 : x3_1 < (l0.length : Int) := of_decide_eq_true (by ((with_reducible assumption)))
         obtain ⟨ad173, e173, hx173_0, hx173_1, hx173_2, hx173_3, hx173_4, hx173_5⟩ := at_T23 HR0.out x3_1 p173 q173
         obtain rfl : ad172 = ad173 := (by injection e173)
         replace p173 := eq_true p173
         replace q173 := eq_true q173
         have p174 : 0 ≤ (x3_1 : Int) := of_decide_eq_true (by ((with_reducible assumption)))
         have q174 : x3_1 < (l0.length : Int) := of_decide_eq_true (by ((with_reducible assumption)))
         obtain ⟨ad174, e174, hx174_0, hx174_1, hx174_2, hx174_3, hx174_4, hx174_5⟩ := at_T23 HR0.out x3_1 p174 q174
         obtain rfl : ad172 = ad174 := (by injection e174)
         replace p174 := eq_true p174
         replace q174 := eq_true q174
         go_wp2
         go_ret
         exact ⟨by (rfl), by repeat (first | exact Drawn0.refl _ | apply Drawn0.step)⟩
        ·rw [if_neg c7] at H
         have c7b0 : decide (400 < (((rd_T23 l0 x3_1).f3).size : Int)) = false := decide_eq_false c7
         have c7b1 : decide (400 < ((rd_T23 l0 x3_1).f3).size) = false := decide_eq_false (by omega)
         clear c7
         by_cases c8 : (((rd_T23 l0 x3_1).f5).size : Int) > 400
         ·rw [if_pos c8] at H
          have c8b0 : decide (400 < (((rd_T23 l0 x3_1).f5).size : Int)) = true := decide_eq_true c8
          have c8b1 : decide (400 < ((rd_T23 l0 x3_1).f5).size) = true := decide_eq_true (by omega)
          clear c8
          obtain rfl := Option.some.inj H
          have p172 : 0 ≤ (x3_1 : Int) := of_decide_eq_true (by ((with_reducible assumption)))
          have q172 : x3_1 < (l0.length : Int) := of_decide_eq_true (by ((with_reducible assumption)))
          obtain ⟨ad172, e172, hx172_0, hx172_1, hx172_2, hx172_3, hx172_4, hx172_5⟩ := at_T23 HR0.out x3_1 p172 q172
          cases e172
          replace p172 := eq_true p172
          replace q172 := eq_true q172
          have p173 : 0 ≤ (x3_1 : Int) := of_decide_eq_true (by ((with_reducible assumption)))
          have q173 : x3_1 < (l0.length : Int) := of_decide_eq_true (by ((with_reducible assumption)))
          obtain ⟨ad173, e173, hx173_0, hx173_1, hx173_2, hx173_3, hx173_4, hx173_5⟩ := at_T23 HR0.out x3_1 p173 q173
          obtain rfl : ad172 = ad173 := (by injection e173)
          replace p173 := eq_true p173
          replace q173 := eq_true q173
          have p174 : 0 ≤ (x3_1 : Int) := of_decide_eq_true (by ((with_reducible assumption)))
          have q174 : x3_1 < (l0.length : Int) := of_decide_eq_true (by ((with_reducible assumption)))
          obtain ⟨ad174, e174, hx174_0, hx174_1, hx174_2, hx174_3, hx174_4, hx174_5⟩ := at_T23 HR0.out x3_1 p174 q174
          obtain rfl : ad172 = ad174 := (by injection e174)
          replace p174 := eq_true p174
          replace q174 := eq_true q174
          have p175 : 0 ≤ (x3_1 : Int) := of_decide_eq_true (by ((with_reducible assumption)))
          have q175 : x3_1 < (l0.length : Int) := of_decide_eq_true (by ((with_reducible assumption)))
          obtain ⟨ad175, e175, hx175_0, hx175_1, hx175_2, hx175_3, hx175_4, hx175_5⟩ := at_T23 HR0.out x3_1 p175 q175
          obtain rfl : ad172 = ad175 := (by injection e175)
          replace p175 := eq_true p175
          replace q175 := eq_true q175
          go_wp2
          go_ret
          exact ⟨by (rfl), by repeat (first | exact Drawn0.refl _ | apply Drawn0.step)⟩
         ·rw [if_neg c8] at H
          have c8b0 : decide (400 < (((rd_T23 l0 x3_1).f5).size : Int)) = false := decide_eq_false c8
          have c8b1 : decide (400 < ((rd_T23 l0 x3_1).f5).size) = false := decide_eq_false (by omega)
          clear c8
          have H' := Aside0.mk H
          clear H
          have p172 : 0 ≤ (x3_1 : Int) := of_decide_eq_true (by ((with_reducible assumption)))
          have q172 : x3_1 < (l0.length : Int) := of_decide_eq_true (by ((with_reducible assumption)))
          obtain ⟨ad172, e172, hx172_0, hx172_1, hx172_2, hx172_3, hx172_4, hx172_5⟩ := at_T23 HR0.out x3_1 p172 q172
          cases e172
          replace p172 := eq_true p172
          replace q172 := eq_true q172
          have p173 : 0 ≤ (x3_1 : Int) := of_decide_eq_true (by ((with_reducible assumption)))
          have q173 : x3_1 < (l0.length : Int) := of_decide_eq_true (by ((with_reducible assumption)))
          obtain ⟨ad173, e173, hx173_0, hx173_1, hx173_2, hx173_3, hx173_4, hx173_5⟩ := at_T23 HR0.out x3_1 p173 q173
          obtain rfl : ad172 = ad173 := (by injection e173)
          replace p173 := eq_true p173
          replace q173 := eq_true q173
          have p174 : 0 ≤ (x3_1 : Int) := of_decide_eq_true (by ((with_reducible assumption)))
          have q174 : x3_1 < (l0.length : Int) := of_decide_eq_true (by ((with_reducible assumption)))
          obtain ⟨ad174, e174, hx174_0, hx174_1, hx174_2, hx174_3, hx174_4, hx174_5⟩ := at_T23 HR0.out x3_1 p174 q174
          obtain rfl : ad172 = ad174 := (by injection e174)
          replace p174 := eq_true p174
          replace q174 := eq_true q174
          have p175 : 0 ≤ (x3_1 : Int) := of_decide_eq_true (by ((with_reducible assumption)))
          have q175 : x3_1 < (l0.length : Int) := of_decide_eq_true (by ((with_reducible assumption)))
          obtain ⟨ad175, e175, hx175_0, hx175_1, hx175_2, hx175_3, hx175_4, hx175_5⟩ := at_T23 HR0.out x3_1 p175 q175
          obtain rfl : ad172 = ad175 := (by injection e175)
          replace p175 := eq_true p175
          replace q175 := eq_true q175
          go_wp2
          go_roundg k1
          case measure => have := HK1.out; omega
          case rel => exact ⟨(wrap64 (x3_1 + 1)), (by (rfl)), H', ⟨by have := HK1.out; omega⟩, by repeat (first | exact Drawn0.refl _ | apply Drawn0.step)⟩
     ·rw [if_neg c4] at H
      exact absurd H (by simp)
    ·rw [if_neg c3] at H
     have c3b0 : decide (x3_1 < (l0.length : Int)) = false := decide_eq_false c3
     clear c3
     obtain rfl := Option.some.inj H
     go_wp2
     go_ret
     exact ⟨by (rfl), by repeat (first | exact Drawn0.refl _ | apply Drawn0.step)⟩

/-! ### coppicelaw19_tells: function 12 -/
def coppicelaw19_tells.f (a0_0 : Int) (a0_1 : Int) (a0_2 : Int) (a1 : Int) (a2 : Int) : Option (Bool) := if a1 = 0 then (some (a0_0 == 0 && (a0_1 == 0 && (a0_2 == 0)))) else (some (a0_0 == a1 && (a0_1 == 0 && (a0_2 == a2))))
set_option maxHeartbeats 8000000 in
set_option maxRecDepth 100000 in
theorem coppicelaw19_tells.calls (a0_0 : Int) (a0_1 : Int) (a0_2 : Int) (a1 : Int) (a2 : Int) (r : Bool) (w : World) (h : coppicelaw19_tells.f a0_0 a0_1 a0_2 a1 a2 = some r) :
  Calls Tryz.prog 12 #[.agg #[.int .i64 a0_0, .int .i64 a0_1, .int .i64 a0_2], .int .i64 a1, .int .i64 a2] w fun e w' => e = .returned (.bool r) ∧ Below w.heap.size w w' := by
 have hu30 := Tryz.underlying30
 have HB := Aside0.mk (Below.refl w.heap.size w)
 have H : (if a1 = 0 then (some (a0_0 == 0 && (a0_1 == 0 && (a0_2 == 0)))) else (some (a0_0 == a1 && (a0_1 == 0 && (a0_2 == a2))))) = some r := h
 clear h
 by_cases c4 : a1 = 0
 ·rw [if_pos c4] at H
  have c4b0 : (a1 == 0) = true := beq_iff_eq.mpr c4
  have c4b1 : (a1 != 0) = false := bne_eq_false_iff_eq.mpr c4
  clear c4
  obtain rfl := Option.some.inj H
  go_enter Tryz.func12, Tryz.ntmps12
  go_wp2_with (first | ((with_reducible refine gate_dst (N := 3) rfl ?_); refine box_event ?hg (N := 3) ?hd (cs := #[.int .i64 a0_0, .int .i64 a0_1, .int .i64 a0_2]) (t := 30) ?hr ?_; (case hd => rfl); (case hg => rfl); (case hr => ((go_simp; done))); intro qc hg w5 hbox hb; have n0_ := Aside0.mk (below_step (by repeat (((with_reducible (exact HB.out))))) hb); have n1_ := Aside0.mk (hbox); have n2_ := Aside0.mk ((by rw [hg]; exact (below_size (by repeat (((with_reducible (exact HB.out)))))) : w.heap.size ≤ qc)); have n3_ := Aside0.mk ((by rw [hg]; exact (below_size (by repeat (((with_reducible (exact HB.out)))))) : w.heap.size ≤ qc)); clear HB; have HB := n0_; have qb := n1_; have GW176 := n2_; have qd := n3_; clear n0_ n1_ n2_ n3_; clear hb hbox hg; have hcz6_0 : w5.cell? ⟨qc, 0, none⟩ = some (.int .i64 a0_0) := (blk_cell qb.out 0).trans rfl; have hcz6_1 : w5.cell? ⟨qc, 1, none⟩ = some (.int .i64 a0_1) := (blk_cell qb.out 1).trans rfl; have hcz6_2 : w5.cell? ⟨qc, 2, none⟩ = some (.int .i64 a0_2) := (blk_cell qb.out 2).trans rfl; have hfz6_0 := blk_frozen qb.out 0; have hfz6_1 := blk_frozen qb.out 1; have hfz6_2 := blk_frozen qb.out 2))
  go_ret
  exact ⟨by (rfl), by repeat (((with_reducible (exact HB.out))))⟩
 ·rw [if_neg c4] at H
  have c4b0 : (a1 == 0) = false := beq_eq_false_iff_ne.mpr c4
  have c4b1 : (a1 != 0) = true := bne_iff_ne.mpr c4
  obtain rfl := Option.some.inj H
  go_enter Tryz.func12, Tryz.ntmps12
  go_wp2_with (first | ((with_reducible refine gate_dst (N := 3) rfl ?_); refine box_event ?hg (N := 3) ?hd (cs := #[.int .i64 a0_0, .int .i64 a0_1, .int .i64 a0_2]) (t := 30) ?hr ?_; (case hd => rfl); (case hg => rfl); (case hr => ((go_simp; done))); intro qc hg w7 hbox hb; have n0_ := Aside0.mk (below_step (by repeat (((with_reducible (exact HB.out))))) hb); have n1_ := Aside0.mk (hbox); have n2_ := Aside0.mk ((by rw [hg]; exact (below_size (by repeat (((with_reducible (exact HB.out)))))) : w.heap.size ≤ qc)); have n3_ := Aside0.mk ((by rw [hg]; exact (below_size (by repeat (((with_reducible (exact HB.out)))))) : w.heap.size ≤ qc)); clear HB; have HB := n0_; have qb := n1_; have GW176 := n2_; have qd := n3_; clear n0_ n1_ n2_ n3_; clear hb hbox hg; have hcz8_0 : w7.cell? ⟨qc, 0, none⟩ = some (.int .i64 a0_0) := (blk_cell qb.out 0).trans rfl; have hcz8_1 : w7.cell? ⟨qc, 1, none⟩ = some (.int .i64 a0_1) := (blk_cell qb.out 1).trans rfl; have hcz8_2 : w7.cell? ⟨qc, 2, none⟩ = some (.int .i64 a0_2) := (blk_cell qb.out 2).trans rfl; have hfz8_0 := blk_frozen qb.out 0; have hfz8_1 := blk_frozen qb.out 1; have hfz8_2 := blk_frozen qb.out 2))
  go_ret
  exact ⟨by (rfl), by repeat (((with_reducible (exact HB.out))))⟩

end Go.Proofs.YtofdpgcnconibaaGreatDoor.PA
