-- WRITTEN BY a program of this session (pp.sh)
import Derived.Test.YtofdpgcnconibaaGreatDoorPAx0
import Derived.Test.YtofdpgcnconibaaGreatDoorPAx3
import Derived.Test.YtofdpgcnconibaaGreatDoorPAx4
import Derived.Test.YtofdpgcnconibaaGreatDoorPAx8
namespace Go.Proofs.YtofdpgcnconibaaGreatDoor.PA
open Go.RowKit Go.Proofs.YtofdpgcnconibaaGreatDoorW.PrintWords Go.Proofs.YtofdpgcnconibaaGreatDoorW.PrintLast Go.Proofs.YtofdpgcnconibaaGreatDoorW.PrintMore Go.Proofs.YtofdpgcnconibaaGreatDoor.Plain
attribute [local go_sem] max2_int min2_int max_two min_two max_three min_three max_four min_four binOp_leq_s binOp_gtr_s binOp_geq_s lit_byte   -- for this text's walks alone
set_option linter.unusedVariables false
set_option linter.unusedSimpArgs false

/-! ### cmd_check: function 28 -/
mutual
def cmd_check.j0 : Nat → Bool → Bool → Int → ByteArray → ByteArray → ByteArray → Int → ByteArray → Bool → Bool → Bool → Bool → Int → Int → Option (Option Int)
 | 0, _, _, _, _, _, _, _, _, _, _, _, _, _, _ => none
 | k + 1, x4, x5, x157000, x157001, x157002, x157003, x157004, x157005, x165000, x165001, x165002, x165003, x165004, x165005 => if x4 = true then (if x5 = true then ((cmd_fits.f x157000 x157001 x157002 x157003 x157004 x157005).bind fun t166 => (cmd_check.j1 k (!t166) x157000 x157001 x157002 x157003 x157004 x157005 x165000 x165001 x165002 x165003 x165004 x165005)) else (cmd_check.j1 k (!x5) x157000 x157001 x157002 x157003 x157004 x157005 x165000 x165001 x165002 x165003 x165004 x165005)) else (cmd_check.j1 k (!x4) x157000 x157001 x157002 x157003 x157004 x157005 x165000 x165001 x165002 x165003 x165004 x165005)
def cmd_check.j1 : Nat → Bool → Int → ByteArray → ByteArray → ByteArray → Int → ByteArray → Bool → Bool → Bool → Bool → Int → Int → Option (Option Int)
 | 0, _, _, _, _, _, _, _, _, _, _, _, _, _ => none
 | k + 1, x21, x157000, x157001, x157002, x157003, x157004, x157005, x165000, x165001, x165002, x165003, x165004, x165005 => if x21 = true then (some (some 190)) else (if x165000 = true then ((cmd_loose.f k x157002).bind fun t167 => (cmd_check.j2 k (!t167) x157000 x157001 x157002 x157003 x157004 x157005 x165000 x165001 x165002 x165003 x165004 x165005)) else (cmd_check.j2 k false x157000 x157001 x157002 x157003 x157004 x157005 x165000 x165001 x165002 x165003 x165004 x165005))
def cmd_check.j2 : Nat → Bool → Int → ByteArray → ByteArray → ByteArray → Int → ByteArray → Bool → Bool → Bool → Bool → Int → Int → Option (Option Int)
 | 0, _, _, _, _, _, _, _, _, _, _, _, _, _ => none
 | k + 1, x29, x157000, x157001, x157002, x157003, x157004, x157005, x165000, x165001, x165002, x165003, x165004, x165005 => if x29 = true then (cmd_check.j3 k x29 x157000 x157001 x157002 x157003 x157004 x157005 x165000 x165001 x165002 x165003 x165004 x165005) else (if x165000 = true then (cmd_check.j3 k false x157000 x157001 x157002 x157003 x157004 x157005 x165000 x165001 x165002 x165003 x165004 x165005) else (cmd_check.j3 k (x157002.toList != ([] : List UInt8)) x157000 x157001 x157002 x157003 x157004 x157005 x165000 x165001 x165002 x165003 x165004 x165005))
def cmd_check.j3 : Nat → Bool → Int → ByteArray → ByteArray → ByteArray → Int → ByteArray → Bool → Bool → Bool → Bool → Int → Int → Option (Option Int)
 | 0, _, _, _, _, _, _, _, _, _, _, _, _, _ => none
 | k + 1, x29, x157000, x157001, x157002, x157003, x157004, x157005, x165000, x165001, x165002, x165003, x165004, x165005 => if x29 = true then (some (some 190)) else (if x165001 = true then ((path_Name.f x157003).bind fun t168 => (cmd_check.j4 k (!t168) x157000 x157001 x157002 x157003 x157004 x157005 x165000 x165001 x165002 x165003 x165004 x165005)) else (cmd_check.j4 k false x157000 x157001 x157002 x157003 x157004 x157005 x165000 x165001 x165002 x165003 x165004 x165005))
def cmd_check.j4 : Nat → Bool → Int → ByteArray → ByteArray → ByteArray → Int → ByteArray → Bool → Bool → Bool → Bool → Int → Int → Option (Option Int)
 | 0, _, _, _, _, _, _, _, _, _, _, _, _, _ => none
 | k + 1, x46, x157000, x157001, x157002, x157003, x157004, x157005, x165000, x165001, x165002, x165003, x165004, x165005 => if x46 = true then (cmd_check.j5 k x46 x157000 x157001 x157002 x157003 x157004 x157005 x165000 x165001 x165002 x165003 x165004 x165005) else (if x165001 = true then (cmd_check.j5 k false x157000 x157001 x157002 x157003 x157004 x157005 x165000 x165001 x165002 x165003 x165004 x165005) else (cmd_check.j5 k (x157003.toList != ([] : List UInt8)) x157000 x157001 x157002 x157003 x157004 x157005 x165000 x165001 x165002 x165003 x165004 x165005))
def cmd_check.j5 : Nat → Bool → Int → ByteArray → ByteArray → ByteArray → Int → ByteArray → Bool → Bool → Bool → Bool → Int → Int → Option (Option Int)
 | 0, _, _, _, _, _, _, _, _, _, _, _, _, _ => none
 | k + 1, x46, x157000, x157001, x157002, x157003, x157004, x157005, x165000, x165001, x165002, x165003, x165004, x165005 => if x46 = true then (some (some 190)) else (if x157004 < x165004 then (some (some 190)) else (if x157004 > x165005 then (some (some 190)) else (some none)))
end
def cmd_check.f (k : Nat) (a0_0 : Int) (a0_1 : ByteArray) (a0_2 : ByteArray) (a0_3 : ByteArray) (a0_4 : Int) (a0_5 : ByteArray) : Option (Option Int) := (cmd_of.f k a0_0).bind fun bt157 => (if a0_0 = 16 then (cmd_check.j0 k bt157.2.2.2.2.2.2 (a0_1.toList == ([] : List UInt8)) a0_0 a0_1 a0_2 a0_3 a0_4 a0_5 bt157.1 bt157.2.1 bt157.2.2.1 bt157.2.2.2.1 bt157.2.2.2.2.1 bt157.2.2.2.2.2.1) else ((cmd_loose.f k a0_1).bind fun t165 => (cmd_check.j0 k bt157.2.2.2.2.2.2 t165 a0_0 a0_1 a0_2 a0_3 a0_4 a0_5 bt157.1 bt157.2.1 bt157.2.2.1 bt157.2.2.2.1 bt157.2.2.2.2.1 bt157.2.2.2.2.2.1)))
set_option maxHeartbeats 8000000 in
set_option maxRecDepth 100000 in
theorem cmd_check.calls (k : Nat) (a0_0 : Int) (a0_1 : ByteArray) (a0_2 : ByteArray) (a0_3 : ByteArray) (a0_4 : Int) (a0_5 : ByteArray) (r : Option Int) (w : World) (hT : Tabs w) (h : cmd_check.f k a0_0 a0_1 a0_2 a0_3 a0_4 a0_5 = some r) :
  Calls Tryz.prog 28 #[.agg #[.int .i64 a0_0, .string a0_1, .string a0_2, .string a0_3, .int .i64 a0_4, .string a0_5]] w fun e w' => e = .returned (errW r) ∧ Below w.heap.size w w' := by
 have hu23 := Tryz.underlying23
 have hu77 := Tryz.underlying77
 have hu55 := Tryz.underlying55
 have hu27 := Tryz.underlying27
 have HB := Aside0.mk (Below.refl w.heap.size w)
 have H : ((cmd_of.f k a0_0).bind fun bt157 => (if a0_0 = 16 then (cmd_check.j0 k bt157.2.2.2.2.2.2 (a0_1.toList == ([] : List UInt8)) a0_0 a0_1 a0_2 a0_3 a0_4 a0_5 bt157.1 bt157.2.1 bt157.2.2.1 bt157.2.2.2.1 bt157.2.2.2.2.1 bt157.2.2.2.2.2.1) else ((cmd_loose.f k a0_1).bind fun t165 => (cmd_check.j0 k bt157.2.2.2.2.2.2 t165 a0_0 a0_1 a0_2 a0_3 a0_4 a0_5 bt157.1 bt157.2.1 bt157.2.2.1 bt157.2.2.2.1 bt157.2.2.2.2.1 bt157.2.2.2.2.2.1)))) = some r := h
 clear h
 replace H := Option.bind_eq_some_iff.mp H
 obtain ⟨⟨t157, t158, t159, t160, t161, t162, t163⟩, A20, H⟩ := H
 replace H : (if a0_0 = 16 then (cmd_check.j0 k t163 (a0_1.toList == ([] : List UInt8)) a0_0 a0_1 a0_2 a0_3 a0_4 a0_5 t157 t158 t159 t160 t161 t162) else ((cmd_loose.f k a0_1).bind fun t165 => (cmd_check.j0 k t163 t165 a0_0 a0_1 a0_2 a0_3 a0_4 a0_5 t157 t158 t159 t160 t161 t162))) = some r := H
 have A2 := Aside0.mk A20
 clear A20
 have HC3 := Aside0.mk H
 clear H
 go_enter Tryz.func28, Tryz.ntmps28
 go_upto_if 17 with (first | ((with_reducible refine gate_dst (N := 1) rfl ?_); refine box_event ?hg (N := 1) ?hd (cs := #[.int .i64 a0_0, .string a0_1, .string a0_2, .string a0_3, .int .i64 a0_4, .string a0_5]) (t := 23) ?hr ?_; (case hd => rfl); (case hg => rfl); (case hr => first | (go_simp; done) | (go_simp; rfl)); intro gb156 hg w4 hbox hb; have n0_ := Aside0.mk (below_step (by repeat (first | (with_reducible first | exact HB.out | apply below_alloc | apply pw_below_drewN | apply below_drew1) | exact HB.out)) hb); have n1_ := Aside0.mk (hbox); have n2_ := Aside0.mk ((by rw [hg]; exact (below_size (by repeat (first | (with_reducible first | exact HB.out | apply below_alloc | apply pw_below_drewN | apply below_drew1) | exact HB.out))) : w.heap.size ≤ gb156)); have n3_ := Aside0.mk ((by rw [hg]; exact (below_size (by repeat (first | (with_reducible first | exact HB.out | apply below_alloc | apply pw_below_drewN | apply below_drew1) | exact HB.out))) : w.heap.size ≤ gb156)); clear HB; have HB := n0_; have BK156 := n1_; have GW156 := n2_; have GE156 := n3_; clear n0_ n1_ n2_ n3_; clear hb hbox hg; have hcz5_0 : w4.cell? ⟨gb156, 0, none⟩ = some (.int .i64 a0_0) := (blk_cell BK156.out 0).trans rfl; have hcz5_1 : w4.cell? ⟨gb156, 1, none⟩ = some (.string a0_1) := (blk_cell BK156.out 1).trans rfl; have hcz5_2 : w4.cell? ⟨gb156, 2, none⟩ = some (.string a0_2) := (blk_cell BK156.out 2).trans rfl; have hcz5_3 : w4.cell? ⟨gb156, 3, none⟩ = some (.string a0_3) := (blk_cell BK156.out 3).trans rfl; have hcz5_4 : w4.cell? ⟨gb156, 4, none⟩ = some (.int .i64 a0_4) := (blk_cell BK156.out 4).trans rfl; have hcz5_5 : w4.cell? ⟨gb156, 5, none⟩ = some (.string a0_5) := (blk_cell BK156.out 5).trans rfl; have hfz5_0 := blk_frozen BK156.out 0; have hfz5_1 := blk_frozen BK156.out 1; have hfz5_2 := blk_frozen BK156.out 2; have hfz5_3 := blk_frozen BK156.out 3; have hfz5_4 := blk_frozen BK156.out 4; have hfz5_5 := blk_frozen BK156.out 5) | ((with_reducible refine gate_callee (f := 34) rfl ?_); refine goesL_ (some 9) rfl rfl Tryz.func34 (by kernel_rfl) rfl #[.int .i64 a0_0] rfl (by (try simp only [List.map_toArray, List.map_cons, List.map_nil]); first | done | rfl | (simp only [List.length_drop, List.length_take]; rfl)) ?_; (with_reducible refine (cmd_of.calls k a0_0 t157 t158 t159 t160 t161 t162 t163 _ A2.out).mono ?_); rintro e w6 ⟨rfl, hb⟩; refine ⟨_, rfl, ?_⟩; have n0_ := Aside0.mk (blk_below (g := gb156) (o := .cells #[.int .i64 a0_0, .string a0_1, .string a0_2, .string a0_3, .int .i64 a0_4, .string a0_5] 23 (0, 0)) (by (with_reducible repeat (first | refine blk_drewN ?_ _ | refine blk_drew ?_ | refine blk_alloc ?_ _)); exact BK156.out) hb); have n1_ := Aside0.mk (below_step (by repeat (first | (with_reducible first | exact HB.out | apply below_alloc | apply pw_below_drewN | apply below_drew1 | refine below_set ?_ GE156.out) | exact HB.out)) hb); clear BK156; clear HB; have BK156 := n0_; have HB := n1_; clear n0_ n1_; (try clear hb); (try clear hb2); (try clear hk); (try clear hi)) | ((with_reducible refine gate_dst (N := 3) rfl ?_); refine box_event ?hg (N := 3) ?hd (cs := #[.bool false, .bool false, .bool false, .bool false, .int .i64 0, .int .i64 0]) (t := 77) ?hr ?_; (case hd => rfl); (case hg => rfl); (case hr => first | (go_simp; done) | (go_simp; rfl)); intro gb164 hg w7 hbox hb; have n0_ := Aside0.mk (blk_below (g := gb156) (o := .cells #[.int .i64 a0_0, .string a0_1, .string a0_2, .string a0_3, .int .i64 a0_4, .string a0_5] 23 (0, 0)) (by (with_reducible repeat (first | refine blk_drewN ?_ _ | refine blk_drew ?_ | refine blk_alloc ?_ _)); exact BK156.out) hb); have n1_ := Aside0.mk (below_step (by repeat (first | (with_reducible first | exact HB.out | apply below_alloc | apply pw_below_drewN | apply below_drew1 | refine below_set ?_ GE156.out) | exact HB.out)) hb); have n2_ := Aside0.mk (hbox); have n3_ := Aside0.mk ((by rw [hg]; exact (below_size (by repeat (first | (with_reducible first | exact HB.out | apply below_alloc | apply pw_below_drewN | apply below_drew1 | refine below_set ?_ GE156.out) | exact HB.out))) : w.heap.size ≤ gb164)); have n4_ := Aside0.mk ((by rw [hg]; exact (below_size (by repeat (first | (with_reducible first | exact HB.out | apply below_alloc | apply pw_below_drewN | apply below_drew1 | refine below_set ?_ GE156.out) | exact HB.out))) : w.heap.size ≤ gb164)); have n5_ := Aside0.mk ((by rw [hg]; exact Nat.ne_of_lt (blk_lt (g := gb156) (o := .cells #[.int .i64 a0_0, .string a0_1, .string a0_2, .string a0_3, .int .i64 a0_4, .string a0_5] 23 (0, 0)) (by (with_reducible repeat (first | refine blk_drewN ?_ _ | refine blk_drew ?_ | refine blk_alloc ?_ _)); exact BK156.out)) : gb156 ≠ gb164)); have n6_ := Aside0.mk ((by rw [hg]; exact Nat.ne_of_gt (blk_lt (g := gb156) (o := .cells #[.int .i64 a0_0, .string a0_1, .string a0_2, .string a0_3, .int .i64 a0_4, .string a0_5] 23 (0, 0)) (by (with_reducible repeat (first | refine blk_drewN ?_ _ | refine blk_drew ?_ | refine blk_alloc ?_ _)); exact BK156.out)) : gb164 ≠ gb156)); clear BK156; clear HB; have BK156 := n0_; have HB := n1_; have BK164 := n2_; have GW164 := n3_; have GE164 := n4_; have NB156_164 := n5_; have NB164_156 := n6_; clear n0_ n1_ n2_ n3_ n4_ n5_ n6_; clear hb hbox hg; have hnb8 := NB164_156.out; have hnc8 := NB156_164.out; have hcz9_0 : w7.cell? ⟨gb164, 0, none⟩ = some (.bool false) := (blk_cell BK164.out 0).trans rfl; have hcz9_1 : w7.cell? ⟨gb164, 1, none⟩ = some (.bool false) := (blk_cell BK164.out 1).trans rfl; have hcz9_2 : w7.cell? ⟨gb164, 2, none⟩ = some (.bool false) := (blk_cell BK164.out 2).trans rfl; have hcz9_3 : w7.cell? ⟨gb164, 3, none⟩ = some (.bool false) := (blk_cell BK164.out 3).trans rfl; have hcz9_4 : w7.cell? ⟨gb164, 4, none⟩ = some (.int .i64 0) := (blk_cell BK164.out 4).trans rfl; have hcz9_5 : w7.cell? ⟨gb164, 5, none⟩ = some (.int .i64 0) := (blk_cell BK164.out 5).trans rfl; have hfz9_0 := blk_frozen BK164.out 0; have hfz9_1 := blk_frozen BK164.out 1; have hfz9_2 := blk_frozen BK164.out 2; have hfz9_3 := blk_frozen BK164.out 3; have hfz9_4 := blk_frozen BK164.out 4; have hfz9_5 := blk_frozen BK164.out 5; have hcz10_0 : w7.cell? ⟨gb156, 0, none⟩ = some (.int .i64 a0_0) := (blk_cell BK156.out 0).trans rfl; have hcz10_1 : w7.cell? ⟨gb156, 1, none⟩ = some (.string a0_1) := (blk_cell BK156.out 1).trans rfl; have hcz10_2 : w7.cell? ⟨gb156, 2, none⟩ = some (.string a0_2) := (blk_cell BK156.out 2).trans rfl; have hcz10_3 : w7.cell? ⟨gb156, 3, none⟩ = some (.string a0_3) := (blk_cell BK156.out 3).trans rfl; have hcz10_4 : w7.cell? ⟨gb156, 4, none⟩ = some (.int .i64 a0_4) := (blk_cell BK156.out 4).trans rfl; have hcz10_5 : w7.cell? ⟨gb156, 5, none⟩ = some (.string a0_5) := (blk_cell BK156.out 5).trans rfl; have hfz10_0 := blk_frozen BK156.out 0; have hfz10_1 := blk_frozen BK156.out 1; have hfz10_2 := blk_frozen BK156.out 2; have hfz10_3 := blk_frozen BK156.out 3; have hfz10_4 := blk_frozen BK156.out 4; have hfz10_5 := blk_frozen BK156.out 5))
 (try simp only [Act.put, List.setIfInBounds_toArray, List.set_cons_zero, List.set_cons_succ])
 go_cut [5] (fun v5 wc => ∃ (kq : Nat) (x5_2 : Bool), v5 = .bool x5_2 ∧ Aside0 (cmd_check.j0 kq t163 x5_2 a0_0 a0_1 a0_2 a0_3 a0_4 a0_5 t157 t158 t159 t160 t161 t162 = some r) ∧ Aside0 (kq ≤ k) ∧ Aside0 (wc.heap[gb156]? = some (.cells #[.int .i64 a0_0, .string a0_1, .string a0_2, .string a0_3, .int .i64 a0_4, .string a0_5] 23 (0, 0))) ∧ Aside0 (wc.heap[gb164]? = some (.cells #[.bool t157, .bool t158, .bool t159, .bool t160, .int .i64 t161, .int .i64 t162] 77 (0, 0))) ∧ Aside0 (Below w.heap.size w wc))
 case first =>
  have H := HC3.out
  clear HC3
  by_cases c11 : a0_0 = 16
  ·rw [if_pos c11] at H
   have c11b0 : (a0_0 == 16) = true := beq_iff_eq.mpr c11
   have c11b1 : (a0_0 != 16) = false := bne_eq_false_iff_eq.mpr c11
   clear c11
   (first | rw [c11b0] | (simp only [i64_w, i32_w]; rw [c11b0]) | skip)
   have H' := Aside0.mk H
   clear H
   go_wp2
   go_meet
   case rel => exact ⟨_, ((a0_1.toList == ([] : List UInt8))), (by first | rfl | (simp; done) | (simp [*]; done)), H', ⟨by first | omega | exact Nat.le_refl _⟩, ⟨by (with_reducible repeat (first | refine blk_drewN ?_ _ | refine blk_drew ?_ | refine blk_alloc ?_ _)); refine blk_far ?_ NB156_164.out _; (with_reducible repeat (first | refine blk_drewN ?_ _ | refine blk_drew ?_ | refine blk_alloc ?_ _)); refine blk_far ?_ NB156_164.out _; (with_reducible repeat (first | refine blk_drewN ?_ _ | refine blk_drew ?_ | refine blk_alloc ?_ _)); refine blk_far ?_ NB156_164.out _; (with_reducible repeat (first | refine blk_drewN ?_ _ | refine blk_drew ?_ | refine blk_alloc ?_ _)); refine blk_far ?_ NB156_164.out _; (with_reducible repeat (first | refine blk_drewN ?_ _ | refine blk_drew ?_ | refine blk_alloc ?_ _)); refine blk_far ?_ NB156_164.out _; (with_reducible repeat (first | refine blk_drewN ?_ _ | refine blk_drew ?_ | refine blk_alloc ?_ _)); refine blk_far ?_ NB156_164.out _; (with_reducible repeat (first | refine blk_drewN ?_ _ | refine blk_drew ?_ | refine blk_alloc ?_ _)); exact BK156.out⟩, ⟨by (with_reducible repeat (first | refine blk_drewN ?_ _ | refine blk_drew ?_ | refine blk_alloc ?_ _)); refine blk_put (cs := #[.bool t157, .bool t158, .bool t159, .bool t160, .int .i64 t161, .int .i64 0]) ?_ 5 _ rfl; (with_reducible repeat (first | refine blk_drewN ?_ _ | refine blk_drew ?_ | refine blk_alloc ?_ _)); refine blk_put (cs := #[.bool t157, .bool t158, .bool t159, .bool t160, .int .i64 0, .int .i64 0]) ?_ 4 _ rfl; (with_reducible repeat (first | refine blk_drewN ?_ _ | refine blk_drew ?_ | refine blk_alloc ?_ _)); refine blk_put (cs := #[.bool t157, .bool t158, .bool t159, .bool false, .int .i64 0, .int .i64 0]) ?_ 3 _ rfl; (with_reducible repeat (first | refine blk_drewN ?_ _ | refine blk_drew ?_ | refine blk_alloc ?_ _)); refine blk_put (cs := #[.bool t157, .bool t158, .bool false, .bool false, .int .i64 0, .int .i64 0]) ?_ 2 _ rfl; (with_reducible repeat (first | refine blk_drewN ?_ _ | refine blk_drew ?_ | refine blk_alloc ?_ _)); refine blk_put (cs := #[.bool t157, .bool false, .bool false, .bool false, .int .i64 0, .int .i64 0]) ?_ 1 _ rfl; (with_reducible repeat (first | refine blk_drewN ?_ _ | refine blk_drew ?_ | refine blk_alloc ?_ _)); refine blk_put (cs := #[.bool false, .bool false, .bool false, .bool false, .int .i64 0, .int .i64 0]) ?_ 0 _ rfl; (with_reducible repeat (first | refine blk_drewN ?_ _ | refine blk_drew ?_ | refine blk_alloc ?_ _)); exact BK164.out⟩, ⟨by repeat (first | (with_reducible first | exact HB.out | apply below_alloc | apply pw_below_drewN | apply below_drew1 | refine below_set ?_ GE156.out | refine below_set ?_ GE164.out) | exact HB.out)⟩⟩
  ·rw [if_neg c11] at H
   have c11b0 : (a0_0 == 16) = false := beq_eq_false_iff_ne.mpr c11
   have c11b1 : (a0_0 != 16) = true := bne_iff_ne.mpr c11
   (first | rw [c11b0] | (simp only [i64_w, i32_w]; rw [c11b0]) | skip)
   replace H := Option.bind_eq_some_iff.mp H
   obtain ⟨t165, A120, H⟩ := H
   replace H : (cmd_check.j0 k t163 t165 a0_0 a0_1 a0_2 a0_3 a0_4 a0_5 t157 t158 t159 t160 t161 t162) = some r := H
   have A12 := Aside0.mk A120
   clear A120
   have H' := Aside0.mk H
   clear H
   have hnb13 := NB156_164.out
   have hnc13 := NB164_156.out
   have hcz14_0 : w7.cell? ⟨gb156, 0, none⟩ = some (.int .i64 a0_0) := (blk_cell BK156.out 0).trans rfl
   have hcz14_1 : w7.cell? ⟨gb156, 1, none⟩ = some (.string a0_1) := (blk_cell BK156.out 1).trans rfl
   have hcz14_2 : w7.cell? ⟨gb156, 2, none⟩ = some (.string a0_2) := (blk_cell BK156.out 2).trans rfl
   have hcz14_3 : w7.cell? ⟨gb156, 3, none⟩ = some (.string a0_3) := (blk_cell BK156.out 3).trans rfl
   have hcz14_4 : w7.cell? ⟨gb156, 4, none⟩ = some (.int .i64 a0_4) := (blk_cell BK156.out 4).trans rfl
   have hcz14_5 : w7.cell? ⟨gb156, 5, none⟩ = some (.string a0_5) := (blk_cell BK156.out 5).trans rfl
   have hfz14_0 := blk_frozen BK156.out 0
   have hfz14_1 := blk_frozen BK156.out 1
   have hfz14_2 := blk_frozen BK156.out 2
   have hfz14_3 := blk_frozen BK156.out 3
   have hfz14_4 := blk_frozen BK156.out 4
   have hfz14_5 := blk_frozen BK156.out 5
   go_wp2_with (first | ((with_reducible refine gate_callee (f := 46) rfl ?_); refine goesL_ (some 20) rfl rfl Tryz.func46 (by kernel_rfl) rfl #[.string a0_1] rfl (by (try simp only [List.map_toArray, List.map_cons, List.map_nil]); first | done | rfl | (simp only [List.length_drop, List.length_take]; rfl)) ?_; (with_reducible refine (cmd_loose.calls k a0_1 t165 _ ?side1 A12.out).mono ?_); (case side1 => exact Tabs.on hT (by repeat (first | (with_reducible first | exact HB.out | apply below_alloc | apply pw_below_drewN | apply below_drew1 | refine below_set ?_ GE156.out | refine below_set ?_ GE164.out) | exact HB.out))); rintro e w15 ⟨rfl, hb⟩; refine ⟨_, rfl, ?_⟩; have n0_ := Aside0.mk (blk_below (g := gb156) (o := .cells #[.int .i64 a0_0, .string a0_1, .string a0_2, .string a0_3, .int .i64 a0_4, .string a0_5] 23 (0, 0)) (by (with_reducible repeat (first | refine blk_drewN ?_ _ | refine blk_drew ?_ | refine blk_alloc ?_ _)); refine blk_far ?_ NB156_164.out _; (with_reducible repeat (first | refine blk_drewN ?_ _ | refine blk_drew ?_ | refine blk_alloc ?_ _)); refine blk_far ?_ NB156_164.out _; (with_reducible repeat (first | refine blk_drewN ?_ _ | refine blk_drew ?_ | refine blk_alloc ?_ _)); refine blk_far ?_ NB156_164.out _; (with_reducible repeat (first | refine blk_drewN ?_ _ | refine blk_drew ?_ | refine blk_alloc ?_ _)); refine blk_far ?_ NB156_164.out _; (with_reducible repeat (first | refine blk_drewN ?_ _ | refine blk_drew ?_ | refine blk_alloc ?_ _)); refine blk_far ?_ NB156_164.out _; (with_reducible repeat (first | refine blk_drewN ?_ _ | refine blk_drew ?_ | refine blk_alloc ?_ _)); refine blk_far ?_ NB156_164.out _; (with_reducible repeat (first | refine blk_drewN ?_ _ | refine blk_drew ?_ | refine blk_alloc ?_ _)); exact BK156.out) hb); have n1_ := Aside0.mk (blk_below (g := gb164) (o := .cells #[.bool t157, .bool t158, .bool t159, .bool t160, .int .i64 t161, .int .i64 t162] 77 (0, 0)) (by (with_reducible repeat (first | refine blk_drewN ?_ _ | refine blk_drew ?_ | refine blk_alloc ?_ _)); refine blk_put (cs := #[.bool t157, .bool t158, .bool t159, .bool t160, .int .i64 t161, .int .i64 0]) ?_ 5 _ rfl; (with_reducible repeat (first | refine blk_drewN ?_ _ | refine blk_drew ?_ | refine blk_alloc ?_ _)); refine blk_put (cs := #[.bool t157, .bool t158, .bool t159, .bool t160, .int .i64 0, .int .i64 0]) ?_ 4 _ rfl; (with_reducible repeat (first | refine blk_drewN ?_ _ | refine blk_drew ?_ | refine blk_alloc ?_ _)); refine blk_put (cs := #[.bool t157, .bool t158, .bool t159, .bool false, .int .i64 0, .int .i64 0]) ?_ 3 _ rfl; (with_reducible repeat (first | refine blk_drewN ?_ _ | refine blk_drew ?_ | refine blk_alloc ?_ _)); refine blk_put (cs := #[.bool t157, .bool t158, .bool false, .bool false, .int .i64 0, .int .i64 0]) ?_ 2 _ rfl; (with_reducible repeat (first | refine blk_drewN ?_ _ | refine blk_drew ?_ | refine blk_alloc ?_ _)); refine blk_put (cs := #[.bool t157, .bool false, .bool false, .bool false, .int .i64 0, .int .i64 0]) ?_ 1 _ rfl; (with_reducible repeat (first | refine blk_drewN ?_ _ | refine blk_drew ?_ | refine blk_alloc ?_ _)); refine blk_put (cs := #[.bool false, .bool false, .bool false, .bool false, .int .i64 0, .int .i64 0]) ?_ 0 _ rfl; (with_reducible repeat (first | refine blk_drewN ?_ _ | refine blk_drew ?_ | refine blk_alloc ?_ _)); exact BK164.out) hb); have n2_ := Aside0.mk (below_step (by repeat (first | (with_reducible first | exact HB.out | apply below_alloc | apply pw_below_drewN | apply below_drew1 | refine below_set ?_ GE156.out | refine below_set ?_ GE164.out) | exact HB.out)) hb); clear BK156; clear BK164; clear HB; have BK156 := n0_; have BK164 := n1_; have HB := n2_; clear n0_ n1_ n2_; (try clear hb); (try clear hb2); (try clear hk); (try clear hi)))
   go_meet
   case rel => exact ⟨_, (t165), (by first | rfl | (simp; done) | (simp [*]; done)), H', ⟨by first | omega | exact Nat.le_refl _⟩, ⟨by (with_reducible repeat (first | refine blk_drewN ?_ _ | refine blk_drew ?_ | refine blk_alloc ?_ _)); exact BK156.out⟩, ⟨by (with_reducible repeat (first | refine blk_drewN ?_ _ | refine blk_drew ?_ | refine blk_alloc ?_ _)); exact BK164.out⟩, ⟨by repeat (first | (with_reducible first | exact HB.out | apply below_alloc | apply pw_below_drewN | apply below_drew1 | refine below_set ?_ GE156.out | refine below_set ?_ GE164.out) | exact HB.out)⟩⟩
 case rest =>
  clear HC3
  try clear c1
  try clear c2
  try clear p2
  try clear c3
  try clear c4
  try clear c8
  try clear c11
  try clear c11b0
  try clear c11b1
  try clear c13
  try clear hcz10_0
  try clear hcz10_1
  try clear hcz10_2
  try clear hcz10_3
  try clear hcz10_4
  try clear hcz10_5
  try clear hcz14_0
  try clear hcz14_1
  try clear hcz14_2
  try clear hcz14_3
  try clear hcz14_4
  try clear hcz14_5
  try clear hcz5_0
  try clear hcz5_1
  try clear hcz5_2
  try clear hcz5_3
  try clear hcz5_4
  try clear hcz5_5
  try clear hcz9_0
  try clear hcz9_1
  try clear hcz9_2
  try clear hcz9_3
  try clear hcz9_4
  try clear hcz9_5
  try clear hfz10_0
  try clear hfz10_1
  try clear hfz10_2
  try clear hfz10_3
  try clear hfz10_4
  try clear hfz10_5
  try clear hfz14_0
  try clear hfz14_1
  try clear hfz14_2
  try clear hfz14_3
  try clear hfz14_4
  try clear hfz14_5
  try clear hfz5_0
  try clear hfz5_1
  try clear hfz5_2
  try clear hfz5_3
  try clear hfz5_4
  try clear hfz5_5
  try clear hfz9_0
  try clear hfz9_1
  try clear hfz9_2
  try clear hfz9_3
  try clear hfz9_4
  try clear hfz9_5
  obtain ⟨kq, x5_2, rfl, HA, HJ2, BK156, BK164, HB⟩ := hcut
  cases kq with
  | zero => exact absurd HA.out (by simp [cmd_check.j0])
  | succ kj2 =>
   have H := HA.out
   clear HA
   simp only [cmd_check.j0] at H
   have HC16 := Aside0.mk H
   clear H
   go_upto_if 21 with (fail)
   go_cut [21] (fun v21 wc => ∃ (kq : Nat) (x21_15 : Bool), v21 = .bool x21_15 ∧ Aside0 (cmd_check.j1 kq x21_15 a0_0 a0_1 a0_2 a0_3 a0_4 a0_5 t157 t158 t159 t160 t161 t162 = some r) ∧ Aside0 (kq ≤ kj2) ∧ Aside0 (wc.heap[gb156]? = some (.cells #[.int .i64 a0_0, .string a0_1, .string a0_2, .string a0_3, .int .i64 a0_4, .string a0_5] 23 (0, 0))) ∧ Aside0 (wc.heap[gb164]? = some (.cells #[.bool t157, .bool t158, .bool t159, .bool t160, .int .i64 t161, .int .i64 t162] 77 (0, 0))) ∧ Aside0 (Below w.heap.size w wc))
   case first =>
    have H := HC16.out
    clear HC16
    by_cases c17 : t163 = true
    ·subst c17
     have H1 : (if x5_2 = true then ((cmd_fits.f a0_0 a0_1 a0_2 a0_3 a0_4 a0_5).bind fun t166 => (cmd_check.j1 kj2 (!t166) a0_0 a0_1 a0_2 a0_3 a0_4 a0_5 t157 t158 t159 t160 t161 t162)) else (cmd_check.j1 kj2 (!x5_2) a0_0 a0_1 a0_2 a0_3 a0_4 a0_5 t157 t158 t159 t160 t161 t162)) = some r := by rw [if_pos rfl] at H; exact H
     clear H
     have H := H1
     clear H1
     by_cases c18 : x5_2 = true
     ·subst c18
      have H1 : ((cmd_fits.f a0_0 a0_1 a0_2 a0_3 a0_4 a0_5).bind fun t166 => (cmd_check.j1 kj2 (!t166) a0_0 a0_1 a0_2 a0_3 a0_4 a0_5 t157 t158 t159 t160 t161 t162)) = some r := by rw [if_pos rfl] at H; exact H
      clear H
      have H := H1
      clear H1
      replace H := Option.bind_eq_some_iff.mp H
      obtain ⟨t166, A190, H⟩ := H
      replace H : (cmd_check.j1 kj2 (!t166) a0_0 a0_1 a0_2 a0_3 a0_4 a0_5 t157 t158 t159 t160 t161 t162) = some r := H
      have A19 := Aside0.mk A190
      clear A190
      have H' := Aside0.mk H
      clear H
      have hnb20 := NB156_164.out
      have hnc20 := NB164_156.out
      have hcz21_0 : wc.cell? ⟨gb156, 0, none⟩ = some (.int .i64 a0_0) := (blk_cell BK156.out 0).trans rfl
      have hcz21_1 : wc.cell? ⟨gb156, 1, none⟩ = some (.string a0_1) := (blk_cell BK156.out 1).trans rfl
      have hcz21_2 : wc.cell? ⟨gb156, 2, none⟩ = some (.string a0_2) := (blk_cell BK156.out 2).trans rfl
      have hcz21_3 : wc.cell? ⟨gb156, 3, none⟩ = some (.string a0_3) := (blk_cell BK156.out 3).trans rfl
      have hcz21_4 : wc.cell? ⟨gb156, 4, none⟩ = some (.int .i64 a0_4) := (blk_cell BK156.out 4).trans rfl
      have hcz21_5 : wc.cell? ⟨gb156, 5, none⟩ = some (.string a0_5) := (blk_cell BK156.out 5).trans rfl
      have hfz21_0 := blk_frozen BK156.out 0
      have hfz21_1 := blk_frozen BK156.out 1
      have hfz21_2 := blk_frozen BK156.out 2
      have hfz21_3 := blk_frozen BK156.out 3
      have hfz21_4 := blk_frozen BK156.out 4
      have hfz21_5 := blk_frozen BK156.out 5
      go_wp2_with (first | ((with_reducible refine gate_callee (f := 47) rfl ?_); refine goesL_ (some 27) rfl rfl Tryz.func47 (by kernel_rfl) rfl #[.agg #[.int .i64 a0_0, .string a0_1, .string a0_2, .string a0_3, .int .i64 a0_4, .string a0_5]] rfl (by (try simp only [List.map_toArray, List.map_cons, List.map_nil]); first | done | rfl | (simp only [List.length_drop, List.length_take]; rfl)) ?_; (with_reducible refine (cmd_fits.calls a0_0 a0_1 a0_2 a0_3 a0_4 a0_5 t166 _ A19.out).mono ?_); rintro e w22 ⟨rfl, hb⟩; refine ⟨_, rfl, ?_⟩; have n0_ := Aside0.mk (blk_below (g := gb156) (o := .cells #[.int .i64 a0_0, .string a0_1, .string a0_2, .string a0_3, .int .i64 a0_4, .string a0_5] 23 (0, 0)) (by (with_reducible repeat (first | refine blk_drewN ?_ _ | refine blk_drew ?_ | refine blk_alloc ?_ _)); exact BK156.out) hb); have n1_ := Aside0.mk (blk_below (g := gb164) (o := .cells #[.bool t157, .bool t158, .bool t159, .bool t160, .int .i64 t161, .int .i64 t162] 77 (0, 0)) (by (with_reducible repeat (first | refine blk_drewN ?_ _ | refine blk_drew ?_ | refine blk_alloc ?_ _)); exact BK164.out) hb); have n2_ := Aside0.mk (below_step (by repeat (first | (with_reducible first | exact HB.out | apply below_alloc | apply pw_below_drewN | apply below_drew1 | refine below_set ?_ GE156.out | refine below_set ?_ GE164.out) | exact HB.out)) hb); clear BK156; clear BK164; clear HB; have BK156 := n0_; have BK164 := n1_; have HB := n2_; clear n0_ n1_ n2_; (try clear hb); (try clear hb2); (try clear hk); (try clear hi)))
      go_meet
      case rel => exact ⟨_, (!t166), (by first | rfl | (simp; done) | (simp [*]; done)), H', ⟨by have := HJ2.out; first | omega | exact Nat.le_refl _⟩, ⟨by (with_reducible repeat (first | refine blk_drewN ?_ _ | refine blk_drew ?_ | refine blk_alloc ?_ _)); exact BK156.out⟩, ⟨by (with_reducible repeat (first | refine blk_drewN ?_ _ | refine blk_drew ?_ | refine blk_alloc ?_ _)); exact BK164.out⟩, ⟨by repeat (first | (with_reducible first | exact HB.out | apply below_alloc | apply pw_below_drewN | apply below_drew1 | refine below_set ?_ GE156.out | refine below_set ?_ GE164.out) | exact HB.out)⟩⟩
     ·replace c18 := Bool.eq_false_iff.mpr c18
      subst c18
      have H1 : (cmd_check.j1 kj2 (!false) a0_0 a0_1 a0_2 a0_3 a0_4 a0_5 t157 t158 t159 t160 t161 t162) = some r := by rw [if_neg (show ¬ (false = true) by decide)] at H; exact H
      clear H
      have H := H1
      clear H1
      have H' := Aside0.mk H
      clear H
      go_wp2
      go_meet
      case rel => exact ⟨_, (!false), (by first | rfl | (simp; done) | (simp [*]; done)), H', ⟨by have := HJ2.out; first | omega | exact Nat.le_refl _⟩, ⟨by (with_reducible repeat (first | refine blk_drewN ?_ _ | refine blk_drew ?_ | refine blk_alloc ?_ _)); exact BK156.out⟩, ⟨by (with_reducible repeat (first | refine blk_drewN ?_ _ | refine blk_drew ?_ | refine blk_alloc ?_ _)); exact BK164.out⟩, ⟨by repeat (first | (with_reducible first | exact HB.out | apply below_alloc | apply pw_below_drewN | apply below_drew1 | refine below_set ?_ GE156.out | refine below_set ?_ GE164.out) | exact HB.out)⟩⟩
    ·replace c17 := Bool.eq_false_iff.mpr c17
     subst c17
     have H1 : (cmd_check.j1 kj2 (!false) a0_0 a0_1 a0_2 a0_3 a0_4 a0_5 t157 t158 t159 t160 t161 t162) = some r := by rw [if_neg (show ¬ (false = true) by decide)] at H; exact H
     clear H
     have H := H1
     clear H1
     have H' := Aside0.mk H
     clear H
     go_wp2
     go_meet
     case rel => exact ⟨_, (!false), (by first | rfl | (simp; done) | (simp [*]; done)), H', ⟨by have := HJ2.out; first | omega | exact Nat.le_refl _⟩, ⟨by (with_reducible repeat (first | refine blk_drewN ?_ _ | refine blk_drew ?_ | refine blk_alloc ?_ _)); exact BK156.out⟩, ⟨by (with_reducible repeat (first | refine blk_drewN ?_ _ | refine blk_drew ?_ | refine blk_alloc ?_ _)); exact BK164.out⟩, ⟨by repeat (first | (with_reducible first | exact HB.out | apply below_alloc | apply pw_below_drewN | apply below_drew1 | refine below_set ?_ GE156.out | refine below_set ?_ GE164.out) | exact HB.out)⟩⟩
   case rest =>
    clear HC16
    try clear c1
    try clear c2
    try clear p2
    try clear c3
    try clear c4
    try clear c8
    try clear c11
    try clear c11b0
    try clear c11b1
    try clear c13
    try clear c17
    try clear c18
    try clear c20
    try clear hcz10_0
    try clear hcz10_1
    try clear hcz10_2
    try clear hcz10_3
    try clear hcz10_4
    try clear hcz10_5
    try clear hcz14_0
    try clear hcz14_1
    try clear hcz14_2
    try clear hcz14_3
    try clear hcz14_4
    try clear hcz14_5
    try clear hcz21_0
    try clear hcz21_1
    try clear hcz21_2
    try clear hcz21_3
    try clear hcz21_4
    try clear hcz21_5
    try clear hcz5_0
    try clear hcz5_1
    try clear hcz5_2
    try clear hcz5_3
    try clear hcz5_4
    try clear hcz5_5
    try clear hcz9_0
    try clear hcz9_1
    try clear hcz9_2
    try clear hcz9_3
    try clear hcz9_4
    try clear hcz9_5
    try clear hfz10_0
    try clear hfz10_1
    try clear hfz10_2
    try clear hfz10_3
    try clear hfz10_4
    try clear hfz10_5
    try clear hfz14_0
    try clear hfz14_1
    try clear hfz14_2
    try clear hfz14_3
    try clear hfz14_4
    try clear hfz14_5
    try clear hfz21_0
    try clear hfz21_1
    try clear hfz21_2
    try clear hfz21_3
    try clear hfz21_4
    try clear hfz21_5
    try clear hfz5_0
    try clear hfz5_1
    try clear hfz5_2
    try clear hfz5_3
    try clear hfz5_4
    try clear hfz5_5
    try clear hfz9_0
    try clear hfz9_1
    try clear hfz9_2
    try clear hfz9_3
    try clear hfz9_4
    try clear hfz9_5
    try clear p2
    obtain ⟨kq, x21_15, rfl, HA, HJ15, BK156, BK164, HB⟩ := hcut
    cases kq with
    | zero => exact absurd HA.out (by simp [cmd_check.j1])
    | succ kj15 =>
     have H := HA.out
     clear HA
     simp only [cmd_check.j1] at H
     by_cases c23 : x21_15 = true
     ·subst c23
      have H1 : (some (some 190)) = some r := by rw [if_pos rfl] at H; exact H
      clear H
      have H := H1
      clear H1
      obtain rfl := Option.some.inj H
      go_wp2
      go_ret
      exact ⟨by first | rfl | (simp [errW_none, errW_some] <;> rfl) | (simp [*, errW_none, errW_some] <;> rfl), by repeat (first | (with_reducible first | exact HB.out | apply below_alloc | apply pw_below_drewN | apply below_drew1 | refine below_set ?_ GE156.out | refine below_set ?_ GE164.out) | exact HB.out)⟩
     ·replace c23 := Bool.eq_false_iff.mpr c23
      subst c23
      have H1 : (if t157 = true then ((cmd_loose.f kj15 a0_2).bind fun t167 => (cmd_check.j2 kj15 (!t167) a0_0 a0_1 a0_2 a0_3 a0_4 a0_5 t157 t158 t159 t160 t161 t162)) else (cmd_check.j2 kj15 false a0_0 a0_1 a0_2 a0_3 a0_4 a0_5 t157 t158 t159 t160 t161 t162)) = some r := by rw [if_neg (show ¬ (false = true) by decide)] at H; exact H
      clear H
      have H := H1
      clear H1
      have HC24 := Aside0.mk H
      clear H
      go_upto_region 8 with (fail)
      go_cut [29] (fun v29 wc => ∃ (kq : Nat) (x29_23 : Bool), v29 = .bool x29_23 ∧ Aside0 (cmd_check.j2 kq x29_23 a0_0 a0_1 a0_2 a0_3 a0_4 a0_5 t157 t158 t159 t160 t161 t162 = some r) ∧ Aside0 (kq ≤ kj15) ∧ Aside0 (wc.heap[gb156]? = some (.cells #[.int .i64 a0_0, .string a0_1, .string a0_2, .string a0_3, .int .i64 a0_4, .string a0_5] 23 (0, 0))) ∧ Aside0 (wc.heap[gb164]? = some (.cells #[.bool t157, .bool t158, .bool t159, .bool t160, .int .i64 t161, .int .i64 t162] 77 (0, 0))) ∧ Aside0 (Below w.heap.size w wc))
      case first =>
       have H := HC24.out
       clear HC24
       by_cases c25 : t157 = true
       ·subst c25
        have H1 : ((cmd_loose.f kj15 a0_2).bind fun t167 => (cmd_check.j2 kj15 (!t167) a0_0 a0_1 a0_2 a0_3 a0_4 a0_5 true t158 t159 t160 t161 t162)) = some r := by rw [if_pos rfl] at H; exact H
        clear H
        have H := H1
        clear H1
        replace H := Option.bind_eq_some_iff.mp H
        obtain ⟨t167, A260, H⟩ := H
        replace H : (cmd_check.j2 kj15 (!t167) a0_0 a0_1 a0_2 a0_3 a0_4 a0_5 true t158 t159 t160 t161 t162) = some r := H
        have A26 := Aside0.mk A260
        clear A260
        have H' := Aside0.mk H
        clear H
        have hnb27 := NB164_156.out
        have hnc27 := NB156_164.out
        have hcz28_0 : wc.cell? ⟨gb164, 0, none⟩ = some (.bool true) := (blk_cell BK164.out 0).trans rfl
        have hcz28_1 : wc.cell? ⟨gb164, 1, none⟩ = some (.bool t158) := (blk_cell BK164.out 1).trans rfl
        have hcz28_2 : wc.cell? ⟨gb164, 2, none⟩ = some (.bool t159) := (blk_cell BK164.out 2).trans rfl
        have hcz28_3 : wc.cell? ⟨gb164, 3, none⟩ = some (.bool t160) := (blk_cell BK164.out 3).trans rfl
        have hcz28_4 : wc.cell? ⟨gb164, 4, none⟩ = some (.int .i64 t161) := (blk_cell BK164.out 4).trans rfl
        have hcz28_5 : wc.cell? ⟨gb164, 5, none⟩ = some (.int .i64 t162) := (blk_cell BK164.out 5).trans rfl
        have hfz28_0 := blk_frozen BK164.out 0
        have hfz28_1 := blk_frozen BK164.out 1
        have hfz28_2 := blk_frozen BK164.out 2
        have hfz28_3 := blk_frozen BK164.out 3
        have hfz28_4 := blk_frozen BK164.out 4
        have hfz28_5 := blk_frozen BK164.out 5
        have hcz29_0 : wc.cell? ⟨gb156, 0, none⟩ = some (.int .i64 a0_0) := (blk_cell BK156.out 0).trans rfl
        have hcz29_1 : wc.cell? ⟨gb156, 1, none⟩ = some (.string a0_1) := (blk_cell BK156.out 1).trans rfl
        have hcz29_2 : wc.cell? ⟨gb156, 2, none⟩ = some (.string a0_2) := (blk_cell BK156.out 2).trans rfl
        have hcz29_3 : wc.cell? ⟨gb156, 3, none⟩ = some (.string a0_3) := (blk_cell BK156.out 3).trans rfl
        have hcz29_4 : wc.cell? ⟨gb156, 4, none⟩ = some (.int .i64 a0_4) := (blk_cell BK156.out 4).trans rfl
        have hcz29_5 : wc.cell? ⟨gb156, 5, none⟩ = some (.string a0_5) := (blk_cell BK156.out 5).trans rfl
        have hfz29_0 := blk_frozen BK156.out 0
        have hfz29_1 := blk_frozen BK156.out 1
        have hfz29_2 := blk_frozen BK156.out 2
        have hfz29_3 := blk_frozen BK156.out 3
        have hfz29_4 := blk_frozen BK156.out 4
        have hfz29_5 := blk_frozen BK156.out 5
        go_wp2_with (first | (go_at_call 46; (with_reducible refine (cmd_loose.calls kj15 a0_2 t167 _ ?side1 A26.out).mono ?_); (case side1 => exact Tabs.on hT (by repeat (first | (with_reducible first | exact HB.out | apply below_alloc | apply pw_below_drewN | apply below_drew1 | refine below_set ?_ GE156.out | refine below_set ?_ GE164.out) | exact HB.out))); rintro e w30 ⟨rfl, hb⟩; have n0_ := Aside0.mk (blk_below (g := gb156) (o := .cells #[.int .i64 a0_0, .string a0_1, .string a0_2, .string a0_3, .int .i64 a0_4, .string a0_5] 23 (0, 0)) (by (with_reducible repeat (first | refine blk_drewN ?_ _ | refine blk_drew ?_ | refine blk_alloc ?_ _)); exact BK156.out) hb); have n1_ := Aside0.mk (blk_below (g := gb164) (o := .cells #[.bool true, .bool t158, .bool t159, .bool t160, .int .i64 t161, .int .i64 t162] 77 (0, 0)) (by (with_reducible repeat (first | refine blk_drewN ?_ _ | refine blk_drew ?_ | refine blk_alloc ?_ _)); exact BK164.out) hb); have n2_ := Aside0.mk (below_step (by repeat (first | (with_reducible first | exact HB.out | apply below_alloc | apply pw_below_drewN | apply below_drew1 | refine below_set ?_ GE156.out | refine below_set ?_ GE164.out) | exact HB.out)) hb); clear BK156; clear BK164; clear HB; have BK156 := n0_; have BK164 := n1_; have HB := n2_; clear n0_ n1_ n2_; (try clear hb); (try clear hb2); (try clear hk); (try clear hi)))
        go_meet
        case rel => exact ⟨_, (!t167), (by first | rfl | (simp; done) | (simp [*]; done)), H', ⟨by have := HJ2.out; have := HJ15.out; first | omega | exact Nat.le_refl _⟩, ⟨by (with_reducible repeat (first | refine blk_drewN ?_ _ | refine blk_drew ?_ | refine blk_alloc ?_ _)); exact BK156.out⟩, ⟨by (with_reducible repeat (first | refine blk_drewN ?_ _ | refine blk_drew ?_ | refine blk_alloc ?_ _)); exact BK164.out⟩, ⟨by repeat (first | (with_reducible first | exact HB.out | apply below_alloc | apply pw_below_drewN | apply below_drew1 | refine below_set ?_ GE156.out | refine below_set ?_ GE164.out) | exact HB.out)⟩⟩
       ·replace c25 := Bool.eq_false_iff.mpr c25
        subst c25
        have H1 : (cmd_check.j2 kj15 false a0_0 a0_1 a0_2 a0_3 a0_4 a0_5 false t158 t159 t160 t161 t162) = some r := by rw [if_neg (show ¬ (false = true) by decide)] at H; exact H
        clear H
        have H := H1
        clear H1
        have H' := Aside0.mk H
        clear H
        have hnb31 := NB164_156.out
        have hnc31 := NB156_164.out
        have hcz32_0 : wc.cell? ⟨gb164, 0, none⟩ = some (.bool false) := (blk_cell BK164.out 0).trans rfl
        have hcz32_1 : wc.cell? ⟨gb164, 1, none⟩ = some (.bool t158) := (blk_cell BK164.out 1).trans rfl
        have hcz32_2 : wc.cell? ⟨gb164, 2, none⟩ = some (.bool t159) := (blk_cell BK164.out 2).trans rfl
        have hcz32_3 : wc.cell? ⟨gb164, 3, none⟩ = some (.bool t160) := (blk_cell BK164.out 3).trans rfl
        have hcz32_4 : wc.cell? ⟨gb164, 4, none⟩ = some (.int .i64 t161) := (blk_cell BK164.out 4).trans rfl
        have hcz32_5 : wc.cell? ⟨gb164, 5, none⟩ = some (.int .i64 t162) := (blk_cell BK164.out 5).trans rfl
        have hfz32_0 := blk_frozen BK164.out 0
        have hfz32_1 := blk_frozen BK164.out 1
        have hfz32_2 := blk_frozen BK164.out 2
        have hfz32_3 := blk_frozen BK164.out 3
        have hfz32_4 := blk_frozen BK164.out 4
        have hfz32_5 := blk_frozen BK164.out 5
        go_wp2
        go_meet
        case rel => exact ⟨_, (false), (by first | rfl | (simp; done) | (simp [*]; done)), H', ⟨by have := HJ2.out; have := HJ15.out; first | omega | exact Nat.le_refl _⟩, ⟨by (with_reducible repeat (first | refine blk_drewN ?_ _ | refine blk_drew ?_ | refine blk_alloc ?_ _)); exact BK156.out⟩, ⟨by (with_reducible repeat (first | refine blk_drewN ?_ _ | refine blk_drew ?_ | refine blk_alloc ?_ _)); exact BK164.out⟩, ⟨by repeat (first | (with_reducible first | exact HB.out | apply below_alloc | apply pw_below_drewN | apply below_drew1 | refine below_set ?_ GE156.out | refine below_set ?_ GE164.out) | exact HB.out)⟩⟩
      case rest =>
       clear HC24
       try clear c1
       try clear c2
       try clear p2
       try clear c3
       try clear c4
       try clear c8
       try clear c11
       try clear c11b0
       try clear c11b1
       try clear c13
       try clear c17
       try clear c18
       try clear c20
       try clear c23
       try clear c25
       try clear c27
       try clear c28
       try clear c31
       try clear hcz10_0
       try clear hcz10_1
       try clear hcz10_2
       try clear hcz10_3
       try clear hcz10_4
       try clear hcz10_5
       try clear hcz14_0
       try clear hcz14_1
       try clear hcz14_2
       try clear hcz14_3
       try clear hcz14_4
       try clear hcz14_5
       try clear hcz21_0
       try clear hcz21_1
       try clear hcz21_2
       try clear hcz21_3
       try clear hcz21_4
       try clear hcz21_5
       try clear hcz28_0
       try clear hcz28_1
       try clear hcz28_2
       try clear hcz28_3
       try clear hcz28_4
       try clear hcz28_5
       try clear hcz29_0
       try clear hcz29_1
       try clear hcz29_2
       try clear hcz29_3
       try clear hcz29_4
       try clear hcz29_5
       try clear hcz32_0
       try clear hcz32_1
       try clear hcz32_2
       try clear hcz32_3
       try clear hcz32_4
       try clear hcz32_5
       try clear hcz5_0
       try clear hcz5_1
       try clear hcz5_2
       try clear hcz5_3
       try clear hcz5_4
       try clear hcz5_5
       try clear hcz9_0
       try clear hcz9_1
       try clear hcz9_2
       try clear hcz9_3
       try clear hcz9_4
       try clear hcz9_5
       try clear hfz10_0
       try clear hfz10_1
       try clear hfz10_2
       try clear hfz10_3
       try clear hfz10_4
       try clear hfz10_5
       try clear hfz14_0
       try clear hfz14_1
       try clear hfz14_2
       try clear hfz14_3
       try clear hfz14_4
       try clear hfz14_5
       try clear hfz21_0
       try clear hfz21_1
       try clear hfz21_2
       try clear hfz21_3
       try clear hfz21_4
       try clear hfz21_5
       try clear hfz28_0
       try clear hfz28_1
       try clear hfz28_2
       try clear hfz28_3
       try clear hfz28_4
       try clear hfz28_5
       try clear hfz29_0
       try clear hfz29_1
       try clear hfz29_2
       try clear hfz29_3
       try clear hfz29_4
       try clear hfz29_5
       try clear hfz32_0
       try clear hfz32_1
       try clear hfz32_2
       try clear hfz32_3
       try clear hfz32_4
       try clear hfz32_5
       try clear hfz5_0
       try clear hfz5_1
       try clear hfz5_2
       try clear hfz5_3
       try clear hfz5_4
       try clear hfz5_5
       try clear hfz9_0
       try clear hfz9_1
       try clear hfz9_2
       try clear hfz9_3
       try clear hfz9_4
       try clear hfz9_5
       try clear p2
       obtain ⟨kq, x29_23, rfl, HA, HJ23, BK156, BK164, HB⟩ := hcut
       cases kq with
       | zero => exact absurd HA.out (by simp [cmd_check.j2])
       | succ kj23 =>
        have H := HA.out
        clear HA
        simp only [cmd_check.j2] at H
        have HC33 := Aside0.mk H
        clear H
        go_upto_if 29 with (fail)
        go_cut [29] (fun v29 wc => ∃ (kq : Nat) (x29_32 : Bool), v29 = .bool x29_32 ∧ Aside0 (cmd_check.j3 kq x29_32 a0_0 a0_1 a0_2 a0_3 a0_4 a0_5 t157 t158 t159 t160 t161 t162 = some r) ∧ Aside0 (kq ≤ kj23) ∧ Aside0 (wc.heap[gb156]? = some (.cells #[.int .i64 a0_0, .string a0_1, .string a0_2, .string a0_3, .int .i64 a0_4, .string a0_5] 23 (0, 0))) ∧ Aside0 (wc.heap[gb164]? = some (.cells #[.bool t157, .bool t158, .bool t159, .bool t160, .int .i64 t161, .int .i64 t162] 77 (0, 0))) ∧ Aside0 (Below w.heap.size w wc))
        case first =>
         have H := HC33.out
         clear HC33
         by_cases c34 : x29_23 = true
         ·subst c34
          have H1 : (cmd_check.j3 kj23 true a0_0 a0_1 a0_2 a0_3 a0_4 a0_5 t157 t158 t159 t160 t161 t162) = some r := by rw [if_pos rfl] at H; exact H
          clear H
          have H := H1
          clear H1
          have H' := Aside0.mk H
          clear H
          go_wp2
          go_meet
          case rel => exact ⟨_, (true), (by first | rfl | (simp; done) | (simp [*]; done)), H', ⟨by have := HJ2.out; have := HJ15.out; have := HJ23.out; first | omega | exact Nat.le_refl _⟩, ⟨by (with_reducible repeat (first | refine blk_drewN ?_ _ | refine blk_drew ?_ | refine blk_alloc ?_ _)); exact BK156.out⟩, ⟨by (with_reducible repeat (first | refine blk_drewN ?_ _ | refine blk_drew ?_ | refine blk_alloc ?_ _)); exact BK164.out⟩, ⟨by repeat (first | (with_reducible first | exact HB.out | apply below_alloc | apply pw_below_drewN | apply below_drew1 | refine below_set ?_ GE156.out | refine below_set ?_ GE164.out) | exact HB.out)⟩⟩
         ·replace c34 := Bool.eq_false_iff.mpr c34
          subst c34
          have H1 : (if t157 = true then (cmd_check.j3 kj23 false a0_0 a0_1 a0_2 a0_3 a0_4 a0_5 t157 t158 t159 t160 t161 t162) else (cmd_check.j3 kj23 (a0_2.toList != ([] : List UInt8)) a0_0 a0_1 a0_2 a0_3 a0_4 a0_5 t157 t158 t159 t160 t161 t162)) = some r := by rw [if_neg (show ¬ (false = true) by decide)] at H; exact H
          clear H
          have H := H1
          clear H1
          by_cases c35 : t157 = true
          ·subst c35
           have H1 : (cmd_check.j3 kj23 false a0_0 a0_1 a0_2 a0_3 a0_4 a0_5 true t158 t159 t160 t161 t162) = some r := by rw [if_pos rfl] at H; exact H
           clear H
           have H := H1
           clear H1
           have H' := Aside0.mk H
           clear H
           have hnb36 := NB164_156.out
           have hnc36 := NB156_164.out
           have hcz37_0 : wc.cell? ⟨gb164, 0, none⟩ = some (.bool true) := (blk_cell BK164.out 0).trans rfl
           have hcz37_1 : wc.cell? ⟨gb164, 1, none⟩ = some (.bool t158) := (blk_cell BK164.out 1).trans rfl
           have hcz37_2 : wc.cell? ⟨gb164, 2, none⟩ = some (.bool t159) := (blk_cell BK164.out 2).trans rfl
           have hcz37_3 : wc.cell? ⟨gb164, 3, none⟩ = some (.bool t160) := (blk_cell BK164.out 3).trans rfl
           have hcz37_4 : wc.cell? ⟨gb164, 4, none⟩ = some (.int .i64 t161) := (blk_cell BK164.out 4).trans rfl
           have hcz37_5 : wc.cell? ⟨gb164, 5, none⟩ = some (.int .i64 t162) := (blk_cell BK164.out 5).trans rfl
           have hfz37_0 := blk_frozen BK164.out 0
           have hfz37_1 := blk_frozen BK164.out 1
           have hfz37_2 := blk_frozen BK164.out 2
           have hfz37_3 := blk_frozen BK164.out 3
           have hfz37_4 := blk_frozen BK164.out 4
           have hfz37_5 := blk_frozen BK164.out 5
           go_wp2
           go_meet
           case rel => exact ⟨_, (false), (by first | rfl | (simp; done) | (simp [*]; done)), H', ⟨by have := HJ2.out; have := HJ15.out; have := HJ23.out; first | omega | exact Nat.le_refl _⟩, ⟨by (with_reducible repeat (first | refine blk_drewN ?_ _ | refine blk_drew ?_ | refine blk_alloc ?_ _)); exact BK156.out⟩, ⟨by (with_reducible repeat (first | refine blk_drewN ?_ _ | refine blk_drew ?_ | refine blk_alloc ?_ _)); exact BK164.out⟩, ⟨by repeat (first | (with_reducible first | exact HB.out | apply below_alloc | apply pw_below_drewN | apply below_drew1 | refine below_set ?_ GE156.out | refine below_set ?_ GE164.out) | exact HB.out)⟩⟩
          ·replace c35 := Bool.eq_false_iff.mpr c35
           subst c35
           have H1 : (cmd_check.j3 kj23 (a0_2.toList != ([] : List UInt8)) a0_0 a0_1 a0_2 a0_3 a0_4 a0_5 false t158 t159 t160 t161 t162) = some r := by rw [if_neg (show ¬ (false = true) by decide)] at H; exact H
           clear H
           have H := H1
           clear H1
           have H' := Aside0.mk H
           clear H
           have hnb38 := NB164_156.out
           have hnc38 := NB156_164.out
           have hcz39_0 : wc.cell? ⟨gb164, 0, none⟩ = some (.bool false) := (blk_cell BK164.out 0).trans rfl
           have hcz39_1 : wc.cell? ⟨gb164, 1, none⟩ = some (.bool t158) := (blk_cell BK164.out 1).trans rfl
           have hcz39_2 : wc.cell? ⟨gb164, 2, none⟩ = some (.bool t159) := (blk_cell BK164.out 2).trans rfl
           have hcz39_3 : wc.cell? ⟨gb164, 3, none⟩ = some (.bool t160) := (blk_cell BK164.out 3).trans rfl
           have hcz39_4 : wc.cell? ⟨gb164, 4, none⟩ = some (.int .i64 t161) := (blk_cell BK164.out 4).trans rfl
           have hcz39_5 : wc.cell? ⟨gb164, 5, none⟩ = some (.int .i64 t162) := (blk_cell BK164.out 5).trans rfl
           have hfz39_0 := blk_frozen BK164.out 0
           have hfz39_1 := blk_frozen BK164.out 1
           have hfz39_2 := blk_frozen BK164.out 2
           have hfz39_3 := blk_frozen BK164.out 3
           have hfz39_4 := blk_frozen BK164.out 4
           have hfz39_5 := blk_frozen BK164.out 5
           have hcz40_0 : wc.cell? ⟨gb156, 0, none⟩ = some (.int .i64 a0_0) := (blk_cell BK156.out 0).trans rfl
           have hcz40_1 : wc.cell? ⟨gb156, 1, none⟩ = some (.string a0_1) := (blk_cell BK156.out 1).trans rfl
           have hcz40_2 : wc.cell? ⟨gb156, 2, none⟩ = some (.string a0_2) := (blk_cell BK156.out 2).trans rfl
           have hcz40_3 : wc.cell? ⟨gb156, 3, none⟩ = some (.string a0_3) := (blk_cell BK156.out 3).trans rfl
           have hcz40_4 : wc.cell? ⟨gb156, 4, none⟩ = some (.int .i64 a0_4) := (blk_cell BK156.out 4).trans rfl
           have hcz40_5 : wc.cell? ⟨gb156, 5, none⟩ = some (.string a0_5) := (blk_cell BK156.out 5).trans rfl
           have hfz40_0 := blk_frozen BK156.out 0
           have hfz40_1 := blk_frozen BK156.out 1
           have hfz40_2 := blk_frozen BK156.out 2
           have hfz40_3 := blk_frozen BK156.out 3
           have hfz40_4 := blk_frozen BK156.out 4
           have hfz40_5 := blk_frozen BK156.out 5
           go_wp2
           go_meet
           case rel => exact ⟨_, ((a0_2.toList != ([] : List UInt8))), (by first | rfl | (simp; done) | (simp [*]; done) | (simp; generalize ByteArray.toList _ = l_; cases l_ <;> rfl)), H', ⟨by have := HJ2.out; have := HJ15.out; have := HJ23.out; first | omega | exact Nat.le_refl _⟩, ⟨by (with_reducible repeat (first | refine blk_drewN ?_ _ | refine blk_drew ?_ | refine blk_alloc ?_ _)); exact BK156.out⟩, ⟨by (with_reducible repeat (first | refine blk_drewN ?_ _ | refine blk_drew ?_ | refine blk_alloc ?_ _)); exact BK164.out⟩, ⟨by repeat (first | (with_reducible first | exact HB.out | apply below_alloc | apply pw_below_drewN | apply below_drew1 | refine below_set ?_ GE156.out | refine below_set ?_ GE164.out) | exact HB.out)⟩⟩
        case rest =>
         clear HC33
         try clear c1
         try clear c2
         try clear p2
         try clear c3
         try clear c4
         try clear c8
         try clear c11
         try clear c11b0
         try clear c11b1
         try clear c13
         try clear c17
         try clear c18
         try clear c20
         try clear c23
         try clear c25
         try clear c27
         try clear c28
         try clear c31
         try clear c34
         try clear c35
         try clear c36
         try clear c38
         try clear hcz10_0
         try clear hcz10_1
         try clear hcz10_2
         try clear hcz10_3
         try clear hcz10_4
         try clear hcz10_5
         try clear hcz14_0
         try clear hcz14_1
         try clear hcz14_2
         try clear hcz14_3
         try clear hcz14_4
         try clear hcz14_5
         try clear hcz21_0
         try clear hcz21_1
         try clear hcz21_2
         try clear hcz21_3
         try clear hcz21_4
         try clear hcz21_5
         try clear hcz28_0
         try clear hcz28_1
         try clear hcz28_2
         try clear hcz28_3
         try clear hcz28_4
         try clear hcz28_5
         try clear hcz29_0
         try clear hcz29_1
         try clear hcz29_2
         try clear hcz29_3
         try clear hcz29_4
         try clear hcz29_5
         try clear hcz32_0
         try clear hcz32_1
         try clear hcz32_2
         try clear hcz32_3
         try clear hcz32_4
         try clear hcz32_5
         try clear hcz37_0
         try clear hcz37_1
         try clear hcz37_2
         try clear hcz37_3
         try clear hcz37_4
         try clear hcz37_5
         try clear hcz39_0
         try clear hcz39_1
         try clear hcz39_2
         try clear hcz39_3
         try clear hcz39_4
         try clear hcz39_5
         try clear hcz40_0
         try clear hcz40_1
         try clear hcz40_2
         try clear hcz40_3
         try clear hcz40_4
         try clear hcz40_5
         try clear hcz5_0
         try clear hcz5_1
         try clear hcz5_2
         try clear hcz5_3
         try clear hcz5_4
         try clear hcz5_5
         try clear hcz9_0
         try clear hcz9_1
         try clear hcz9_2
         try clear hcz9_3
         try clear hcz9_4
         try clear hcz9_5
         try clear hfz10_0
         try clear hfz10_1
         try clear hfz10_2
         try clear hfz10_3
         try clear hfz10_4
         try clear hfz10_5
         try clear hfz14_0
         try clear hfz14_1
         try clear hfz14_2
         try clear hfz14_3
         try clear hfz14_4
         try clear hfz14_5
         try clear hfz21_0
         try clear hfz21_1
         try clear hfz21_2
         try clear hfz21_3
         try clear hfz21_4
         try clear hfz21_5
         try clear hfz28_0
         try clear hfz28_1
         try clear hfz28_2
         try clear hfz28_3
         try clear hfz28_4
         try clear hfz28_5
         try clear hfz29_0
         try clear hfz29_1
         try clear hfz29_2
         try clear hfz29_3
         try clear hfz29_4
         try clear hfz29_5
         try clear hfz32_0
         try clear hfz32_1
         try clear hfz32_2
         try clear hfz32_3
         try clear hfz32_4
         try clear hfz32_5
         try clear hfz37_0
         try clear hfz37_1
         try clear hfz37_2
         try clear hfz37_3
         try clear hfz37_4
         try clear hfz37_5
         try clear hfz39_0
         try clear hfz39_1
         try clear hfz39_2
         try clear hfz39_3
         try clear hfz39_4
         try clear hfz39_5
         try clear hfz40_0
         try clear hfz40_1
         try clear hfz40_2
         try clear hfz40_3
         try clear hfz40_4
         try clear hfz40_5
         try clear hfz5_0
         try clear hfz5_1
         try clear hfz5_2
         try clear hfz5_3
         try clear hfz5_4
         try clear hfz5_5
         try clear hfz9_0
         try clear hfz9_1
         try clear hfz9_2
         try clear hfz9_3
         try clear hfz9_4
         try clear hfz9_5
         try clear p2
         obtain ⟨kq, x29_32, rfl, HA, HJ32, BK156, BK164, HB⟩ := hcut
         cases kq with
         | zero => exact absurd HA.out (by simp [cmd_check.j3])
         | succ kj32 =>
          have H := HA.out
          clear HA
          simp only [cmd_check.j3] at H
          by_cases c41 : x29_32 = true
          ·subst c41
           have H1 : (some (some 190)) = some r := by rw [if_pos rfl] at H; exact H
           clear H
           have H := H1
           clear H1
           obtain rfl := Option.some.inj H
           go_wp2
           go_ret
           exact ⟨by first | rfl | (simp [errW_none, errW_some] <;> rfl) | (simp [*, errW_none, errW_some] <;> rfl), by repeat (first | (with_reducible first | exact HB.out | apply below_alloc | apply pw_below_drewN | apply below_drew1 | refine below_set ?_ GE156.out | refine below_set ?_ GE164.out) | exact HB.out)⟩
          ·replace c41 := Bool.eq_false_iff.mpr c41
           subst c41
           have H1 : (if t158 = true then ((path_Name.f a0_3).bind fun t168 => (cmd_check.j4 kj32 (!t168) a0_0 a0_1 a0_2 a0_3 a0_4 a0_5 t157 t158 t159 t160 t161 t162)) else (cmd_check.j4 kj32 false a0_0 a0_1 a0_2 a0_3 a0_4 a0_5 t157 t158 t159 t160 t161 t162)) = some r := by rw [if_neg (show ¬ (false = true) by decide)] at H; exact H
           clear H
           have H := H1
           clear H1
           have HC42 := Aside0.mk H
           clear H
           go_upto_region 10 with (fail)
           go_cut [46] (fun v46 wc => ∃ (kq : Nat) (x46_41 : Bool), v46 = .bool x46_41 ∧ Aside0 (cmd_check.j4 kq x46_41 a0_0 a0_1 a0_2 a0_3 a0_4 a0_5 t157 t158 t159 t160 t161 t162 = some r) ∧ Aside0 (kq ≤ kj32) ∧ Aside0 (wc.heap[gb156]? = some (.cells #[.int .i64 a0_0, .string a0_1, .string a0_2, .string a0_3, .int .i64 a0_4, .string a0_5] 23 (0, 0))) ∧ Aside0 (wc.heap[gb164]? = some (.cells #[.bool t157, .bool t158, .bool t159, .bool t160, .int .i64 t161, .int .i64 t162] 77 (0, 0))) ∧ Aside0 (Below w.heap.size w wc))
           case first =>
            have H := HC42.out
            clear HC42
            by_cases c43 : t158 = true
            ·subst c43
             have H1 : ((path_Name.f a0_3).bind fun t168 => (cmd_check.j4 kj32 (!t168) a0_0 a0_1 a0_2 a0_3 a0_4 a0_5 t157 true t159 t160 t161 t162)) = some r := by rw [if_pos rfl] at H; exact H
             clear H
             have H := H1
             clear H1
             replace H := Option.bind_eq_some_iff.mp H
             obtain ⟨t168, A440, H⟩ := H
             replace H : (cmd_check.j4 kj32 (!t168) a0_0 a0_1 a0_2 a0_3 a0_4 a0_5 t157 true t159 t160 t161 t162) = some r := H
             have A44 := Aside0.mk A440
             clear A440
             have H' := Aside0.mk H
             clear H
             have hnb45 := NB164_156.out
             have hnc45 := NB156_164.out
             have hcz46_0 : wc.cell? ⟨gb164, 0, none⟩ = some (.bool t157) := (blk_cell BK164.out 0).trans rfl
             have hcz46_1 : wc.cell? ⟨gb164, 1, none⟩ = some (.bool true) := (blk_cell BK164.out 1).trans rfl
             have hcz46_2 : wc.cell? ⟨gb164, 2, none⟩ = some (.bool t159) := (blk_cell BK164.out 2).trans rfl
             have hcz46_3 : wc.cell? ⟨gb164, 3, none⟩ = some (.bool t160) := (blk_cell BK164.out 3).trans rfl
             have hcz46_4 : wc.cell? ⟨gb164, 4, none⟩ = some (.int .i64 t161) := (blk_cell BK164.out 4).trans rfl
             have hcz46_5 : wc.cell? ⟨gb164, 5, none⟩ = some (.int .i64 t162) := (blk_cell BK164.out 5).trans rfl
             have hfz46_0 := blk_frozen BK164.out 0
             have hfz46_1 := blk_frozen BK164.out 1
             have hfz46_2 := blk_frozen BK164.out 2
             have hfz46_3 := blk_frozen BK164.out 3
             have hfz46_4 := blk_frozen BK164.out 4
             have hfz46_5 := blk_frozen BK164.out 5
             have hcz47_0 : wc.cell? ⟨gb156, 0, none⟩ = some (.int .i64 a0_0) := (blk_cell BK156.out 0).trans rfl
             have hcz47_1 : wc.cell? ⟨gb156, 1, none⟩ = some (.string a0_1) := (blk_cell BK156.out 1).trans rfl
             have hcz47_2 : wc.cell? ⟨gb156, 2, none⟩ = some (.string a0_2) := (blk_cell BK156.out 2).trans rfl
             have hcz47_3 : wc.cell? ⟨gb156, 3, none⟩ = some (.string a0_3) := (blk_cell BK156.out 3).trans rfl
             have hcz47_4 : wc.cell? ⟨gb156, 4, none⟩ = some (.int .i64 a0_4) := (blk_cell BK156.out 4).trans rfl
             have hcz47_5 : wc.cell? ⟨gb156, 5, none⟩ = some (.string a0_5) := (blk_cell BK156.out 5).trans rfl
             have hfz47_0 := blk_frozen BK156.out 0
             have hfz47_1 := blk_frozen BK156.out 1
             have hfz47_2 := blk_frozen BK156.out 2
             have hfz47_3 := blk_frozen BK156.out 3
             have hfz47_4 := blk_frozen BK156.out 4
             have hfz47_5 := blk_frozen BK156.out 5
             go_wp2_with (first | (go_at_call 48; (with_reducible refine (path_Name.calls a0_3 t168 _ A44.out).mono ?_); rintro e w48 ⟨rfl, hb⟩; have n0_ := Aside0.mk (blk_below (g := gb156) (o := .cells #[.int .i64 a0_0, .string a0_1, .string a0_2, .string a0_3, .int .i64 a0_4, .string a0_5] 23 (0, 0)) (by (with_reducible repeat (first | refine blk_drewN ?_ _ | refine blk_drew ?_ | refine blk_alloc ?_ _)); exact BK156.out) hb); have n1_ := Aside0.mk (blk_below (g := gb164) (o := .cells #[.bool t157, .bool true, .bool t159, .bool t160, .int .i64 t161, .int .i64 t162] 77 (0, 0)) (by (with_reducible repeat (first | refine blk_drewN ?_ _ | refine blk_drew ?_ | refine blk_alloc ?_ _)); exact BK164.out) hb); have n2_ := Aside0.mk (below_step (by repeat (first | (with_reducible first | exact HB.out | apply below_alloc | apply pw_below_drewN | apply below_drew1 | refine below_set ?_ GE156.out | refine below_set ?_ GE164.out) | exact HB.out)) hb); clear BK156; clear BK164; clear HB; have BK156 := n0_; have BK164 := n1_; have HB := n2_; clear n0_ n1_ n2_; (try clear hb); (try clear hb2); (try clear hk); (try clear hi)))
             go_meet
             case rel => exact ⟨_, (!t168), (by first | rfl | (simp; done) | (simp [*]; done)), H', ⟨by have := HJ2.out; have := HJ15.out; have := HJ23.out; have := HJ32.out; first | omega | exact Nat.le_refl _⟩, ⟨by (with_reducible repeat (first | refine blk_drewN ?_ _ | refine blk_drew ?_ | refine blk_alloc ?_ _)); exact BK156.out⟩, ⟨by (with_reducible repeat (first | refine blk_drewN ?_ _ | refine blk_drew ?_ | refine blk_alloc ?_ _)); exact BK164.out⟩, ⟨by repeat (first | (with_reducible first | exact HB.out | apply below_alloc | apply pw_below_drewN | apply below_drew1 | refine below_set ?_ GE156.out | refine below_set ?_ GE164.out) | exact HB.out)⟩⟩
            ·replace c43 := Bool.eq_false_iff.mpr c43
             subst c43
             have H1 : (cmd_check.j4 kj32 false a0_0 a0_1 a0_2 a0_3 a0_4 a0_5 t157 false t159 t160 t161 t162) = some r := by rw [if_neg (show ¬ (false = true) by decide)] at H; exact H
             clear H
             have H := H1
             clear H1
             have H' := Aside0.mk H
             clear H
             have hnb49 := NB164_156.out
             have hnc49 := NB156_164.out
             have hcz50_0 : wc.cell? ⟨gb164, 0, none⟩ = some (.bool t157) := (blk_cell BK164.out 0).trans rfl
             have hcz50_1 : wc.cell? ⟨gb164, 1, none⟩ = some (.bool false) := (blk_cell BK164.out 1).trans rfl
             have hcz50_2 : wc.cell? ⟨gb164, 2, none⟩ = some (.bool t159) := (blk_cell BK164.out 2).trans rfl
             have hcz50_3 : wc.cell? ⟨gb164, 3, none⟩ = some (.bool t160) := (blk_cell BK164.out 3).trans rfl
             have hcz50_4 : wc.cell? ⟨gb164, 4, none⟩ = some (.int .i64 t161) := (blk_cell BK164.out 4).trans rfl
             have hcz50_5 : wc.cell? ⟨gb164, 5, none⟩ = some (.int .i64 t162) := (blk_cell BK164.out 5).trans rfl
             have hfz50_0 := blk_frozen BK164.out 0
             have hfz50_1 := blk_frozen BK164.out 1
             have hfz50_2 := blk_frozen BK164.out 2
             have hfz50_3 := blk_frozen BK164.out 3
             have hfz50_4 := blk_frozen BK164.out 4
             have hfz50_5 := blk_frozen BK164.out 5
             go_wp2
             go_meet
             case rel => exact ⟨_, (false), (by first | rfl | (simp; done) | (simp [*]; done)), H', ⟨by have := HJ2.out; have := HJ15.out; have := HJ23.out; have := HJ32.out; first | omega | exact Nat.le_refl _⟩, ⟨by (with_reducible repeat (first | refine blk_drewN ?_ _ | refine blk_drew ?_ | refine blk_alloc ?_ _)); exact BK156.out⟩, ⟨by (with_reducible repeat (first | refine blk_drewN ?_ _ | refine blk_drew ?_ | refine blk_alloc ?_ _)); exact BK164.out⟩, ⟨by repeat (first | (with_reducible first | exact HB.out | apply below_alloc | apply pw_below_drewN | apply below_drew1 | refine below_set ?_ GE156.out | refine below_set ?_ GE164.out) | exact HB.out)⟩⟩
           case rest =>
            clear HC42
            try clear c1
            try clear c2
            try clear p2
            try clear c3
            try clear c4
            try clear c8
            try clear c11
            try clear c11b0
            try clear c11b1
            try clear c13
            try clear c17
            try clear c18
            try clear c20
            try clear c23
            try clear c25
            try clear c27
            try clear c28
            try clear c31
            try clear c34
            try clear c35
            try clear c36
            try clear c38
            try clear c41
            try clear c43
            try clear c45
            try clear c49
            try clear hcz10_0
            try clear hcz10_1
            try clear hcz10_2
            try clear hcz10_3
            try clear hcz10_4
            try clear hcz10_5
            try clear hcz14_0
            try clear hcz14_1
            try clear hcz14_2
            try clear hcz14_3
            try clear hcz14_4
            try clear hcz14_5
            try clear hcz21_0
            try clear hcz21_1
            try clear hcz21_2
            try clear hcz21_3
            try clear hcz21_4
            try clear hcz21_5
            try clear hcz28_0
            try clear hcz28_1
            try clear hcz28_2
            try clear hcz28_3
            try clear hcz28_4
            try clear hcz28_5
            try clear hcz29_0
            try clear hcz29_1
            try clear hcz29_2
            try clear hcz29_3
            try clear hcz29_4
            try clear hcz29_5
            try clear hcz32_0
            try clear hcz32_1
            try clear hcz32_2
            try clear hcz32_3
            try clear hcz32_4
            try clear hcz32_5
            try clear hcz37_0
            try clear hcz37_1
            try clear hcz37_2
            try clear hcz37_3
            try clear hcz37_4
            try clear hcz37_5
            try clear hcz39_0
            try clear hcz39_1
            try clear hcz39_2
            try clear hcz39_3
            try clear hcz39_4
            try clear hcz39_5
            try clear hcz40_0
            try clear hcz40_1
            try clear hcz40_2
            try clear hcz40_3
            try clear hcz40_4
            try clear hcz40_5
            try clear hcz46_0
            try clear hcz46_1
            try clear hcz46_2
            try clear hcz46_3
            try clear hcz46_4
            try clear hcz46_5
            try clear hcz47_0
            try clear hcz47_1
            try clear hcz47_2
            try clear hcz47_3
            try clear hcz47_4
            try clear hcz47_5
            try clear hcz50_0
            try clear hcz50_1
            try clear hcz50_2
            try clear hcz50_3
            try clear hcz50_4
            try clear hcz50_5
            try clear hcz5_0
            try clear hcz5_1
            try clear hcz5_2
            try clear hcz5_3
            try clear hcz5_4
            try clear hcz5_5
            try clear hcz9_0
            try clear hcz9_1
            try clear hcz9_2
            try clear hcz9_3
            try clear hcz9_4
            try clear hcz9_5
            try clear hfz10_0
            try clear hfz10_1
            try clear hfz10_2
            try clear hfz10_3
            try clear hfz10_4
            try clear hfz10_5
            try clear hfz14_0
            try clear hfz14_1
            try clear hfz14_2
            try clear hfz14_3
            try clear hfz14_4
            try clear hfz14_5
            try clear hfz21_0
            try clear hfz21_1
            try clear hfz21_2
            try clear hfz21_3
            try clear hfz21_4
            try clear hfz21_5
            try clear hfz28_0
            try clear hfz28_1
            try clear hfz28_2
            try clear hfz28_3
            try clear hfz28_4
            try clear hfz28_5
            try clear hfz29_0
            try clear hfz29_1
            try clear hfz29_2
            try clear hfz29_3
            try clear hfz29_4
            try clear hfz29_5
            try clear hfz32_0
            try clear hfz32_1
            try clear hfz32_2
            try clear hfz32_3
            try clear hfz32_4
            try clear hfz32_5
            try clear hfz37_0
            try clear hfz37_1
            try clear hfz37_2
            try clear hfz37_3
            try clear hfz37_4
            try clear hfz37_5
            try clear hfz39_0
            try clear hfz39_1
            try clear hfz39_2
            try clear hfz39_3
            try clear hfz39_4
            try clear hfz39_5
            try clear hfz40_0
            try clear hfz40_1
            try clear hfz40_2
            try clear hfz40_3
            try clear hfz40_4
            try clear hfz40_5
            try clear hfz46_0
            try clear hfz46_1
            try clear hfz46_2
            try clear hfz46_3
            try clear hfz46_4
            try clear hfz46_5
            try clear hfz47_0
            try clear hfz47_1
            try clear hfz47_2
            try clear hfz47_3
            try clear hfz47_4
            try clear hfz47_5
            try clear hfz50_0
            try clear hfz50_1
            try clear hfz50_2
            try clear hfz50_3
            try clear hfz50_4
            try clear hfz50_5
            try clear hfz5_0
            try clear hfz5_1
            try clear hfz5_2
            try clear hfz5_3
            try clear hfz5_4
            try clear hfz5_5
            try clear hfz9_0
            try clear hfz9_1
            try clear hfz9_2
            try clear hfz9_3
            try clear hfz9_4
            try clear hfz9_5
            try clear p2
            obtain ⟨kq, x46_41, rfl, HA, HJ41, BK156, BK164, HB⟩ := hcut
            cases kq with
            | zero => exact absurd HA.out (by simp [cmd_check.j4])
            | succ kj41 =>
             have H := HA.out
             clear HA
             simp only [cmd_check.j4] at H
             have HC51 := Aside0.mk H
             clear H
             go_upto_if 46 with (fail)
             go_cut [46] (fun v46 wc => ∃ (kq : Nat) (x46_50 : Bool), v46 = .bool x46_50 ∧ Aside0 (cmd_check.j5 kq x46_50 a0_0 a0_1 a0_2 a0_3 a0_4 a0_5 t157 t158 t159 t160 t161 t162 = some r) ∧ Aside0 (kq ≤ kj41) ∧ Aside0 (wc.heap[gb156]? = some (.cells #[.int .i64 a0_0, .string a0_1, .string a0_2, .string a0_3, .int .i64 a0_4, .string a0_5] 23 (0, 0))) ∧ Aside0 (wc.heap[gb164]? = some (.cells #[.bool t157, .bool t158, .bool t159, .bool t160, .int .i64 t161, .int .i64 t162] 77 (0, 0))) ∧ Aside0 (Below w.heap.size w wc))
             case first =>
              have H := HC51.out
              clear HC51
              by_cases c52 : x46_41 = true
              ·subst c52
               have H1 : (cmd_check.j5 kj41 true a0_0 a0_1 a0_2 a0_3 a0_4 a0_5 t157 t158 t159 t160 t161 t162) = some r := by rw [if_pos rfl] at H; exact H
               clear H
               have H := H1
               clear H1
               have H' := Aside0.mk H
               clear H
               go_wp2
               go_meet
               case rel => exact ⟨_, (true), (by first | rfl | (simp; done) | (simp [*]; done)), H', ⟨by have := HJ2.out; have := HJ15.out; have := HJ23.out; have := HJ32.out; have := HJ41.out; first | omega | exact Nat.le_refl _⟩, ⟨by (with_reducible repeat (first | refine blk_drewN ?_ _ | refine blk_drew ?_ | refine blk_alloc ?_ _)); exact BK156.out⟩, ⟨by (with_reducible repeat (first | refine blk_drewN ?_ _ | refine blk_drew ?_ | refine blk_alloc ?_ _)); exact BK164.out⟩, ⟨by repeat (first | (with_reducible first | exact HB.out | apply below_alloc | apply pw_below_drewN | apply below_drew1 | refine below_set ?_ GE156.out | refine below_set ?_ GE164.out) | exact HB.out)⟩⟩
              ·replace c52 := Bool.eq_false_iff.mpr c52
               subst c52
               have H1 : (if t158 = true then (cmd_check.j5 kj41 false a0_0 a0_1 a0_2 a0_3 a0_4 a0_5 t157 t158 t159 t160 t161 t162) else (cmd_check.j5 kj41 (a0_3.toList != ([] : List UInt8)) a0_0 a0_1 a0_2 a0_3 a0_4 a0_5 t157 t158 t159 t160 t161 t162)) = some r := by rw [if_neg (show ¬ (false = true) by decide)] at H; exact H
               clear H
               have H := H1
               clear H1
               by_cases c53 : t158 = true
               ·subst c53
                have H1 : (cmd_check.j5 kj41 false a0_0 a0_1 a0_2 a0_3 a0_4 a0_5 t157 true t159 t160 t161 t162) = some r := by rw [if_pos rfl] at H; exact H
                clear H
                have H := H1
                clear H1
                have H' := Aside0.mk H
                clear H
                have hnb54 := NB164_156.out
                have hnc54 := NB156_164.out
                have hcz55_0 : wc.cell? ⟨gb164, 0, none⟩ = some (.bool t157) := (blk_cell BK164.out 0).trans rfl
                have hcz55_1 : wc.cell? ⟨gb164, 1, none⟩ = some (.bool true) := (blk_cell BK164.out 1).trans rfl
                have hcz55_2 : wc.cell? ⟨gb164, 2, none⟩ = some (.bool t159) := (blk_cell BK164.out 2).trans rfl
                have hcz55_3 : wc.cell? ⟨gb164, 3, none⟩ = some (.bool t160) := (blk_cell BK164.out 3).trans rfl
                have hcz55_4 : wc.cell? ⟨gb164, 4, none⟩ = some (.int .i64 t161) := (blk_cell BK164.out 4).trans rfl
                have hcz55_5 : wc.cell? ⟨gb164, 5, none⟩ = some (.int .i64 t162) := (blk_cell BK164.out 5).trans rfl
                have hfz55_0 := blk_frozen BK164.out 0
                have hfz55_1 := blk_frozen BK164.out 1
                have hfz55_2 := blk_frozen BK164.out 2
                have hfz55_3 := blk_frozen BK164.out 3
                have hfz55_4 := blk_frozen BK164.out 4
                have hfz55_5 := blk_frozen BK164.out 5
                go_wp2
                go_meet
                case rel => exact ⟨_, (false), (by first | rfl | (simp; done) | (simp [*]; done)), H', ⟨by have := HJ2.out; have := HJ15.out; have := HJ23.out; have := HJ32.out; have := HJ41.out; first | omega | exact Nat.le_refl _⟩, ⟨by (with_reducible repeat (first | refine blk_drewN ?_ _ | refine blk_drew ?_ | refine blk_alloc ?_ _)); exact BK156.out⟩, ⟨by (with_reducible repeat (first | refine blk_drewN ?_ _ | refine blk_drew ?_ | refine blk_alloc ?_ _)); exact BK164.out⟩, ⟨by repeat (first | (with_reducible first | exact HB.out | apply below_alloc | apply pw_below_drewN | apply below_drew1 | refine below_set ?_ GE156.out | refine below_set ?_ GE164.out) | exact HB.out)⟩⟩
               ·replace c53 := Bool.eq_false_iff.mpr c53
                subst c53
                have H1 : (cmd_check.j5 kj41 (a0_3.toList != ([] : List UInt8)) a0_0 a0_1 a0_2 a0_3 a0_4 a0_5 t157 false t159 t160 t161 t162) = some r := by rw [if_neg (show ¬ (false = true) by decide)] at H; exact H
                clear H
                have H := H1
                clear H1
                have H' := Aside0.mk H
                clear H
                have hnb56 := NB164_156.out
                have hnc56 := NB156_164.out
                have hcz57_0 : wc.cell? ⟨gb164, 0, none⟩ = some (.bool t157) := (blk_cell BK164.out 0).trans rfl
                have hcz57_1 : wc.cell? ⟨gb164, 1, none⟩ = some (.bool false) := (blk_cell BK164.out 1).trans rfl
                have hcz57_2 : wc.cell? ⟨gb164, 2, none⟩ = some (.bool t159) := (blk_cell BK164.out 2).trans rfl
                have hcz57_3 : wc.cell? ⟨gb164, 3, none⟩ = some (.bool t160) := (blk_cell BK164.out 3).trans rfl
                have hcz57_4 : wc.cell? ⟨gb164, 4, none⟩ = some (.int .i64 t161) := (blk_cell BK164.out 4).trans rfl
                have hcz57_5 : wc.cell? ⟨gb164, 5, none⟩ = some (.int .i64 t162) := (blk_cell BK164.out 5).trans rfl
                have hfz57_0 := blk_frozen BK164.out 0
                have hfz57_1 := blk_frozen BK164.out 1
                have hfz57_2 := blk_frozen BK164.out 2
                have hfz57_3 := blk_frozen BK164.out 3
                have hfz57_4 := blk_frozen BK164.out 4
                have hfz57_5 := blk_frozen BK164.out 5
                have hcz58_0 : wc.cell? ⟨gb156, 0, none⟩ = some (.int .i64 a0_0) := (blk_cell BK156.out 0).trans rfl
                have hcz58_1 : wc.cell? ⟨gb156, 1, none⟩ = some (.string a0_1) := (blk_cell BK156.out 1).trans rfl
                have hcz58_2 : wc.cell? ⟨gb156, 2, none⟩ = some (.string a0_2) := (blk_cell BK156.out 2).trans rfl
                have hcz58_3 : wc.cell? ⟨gb156, 3, none⟩ = some (.string a0_3) := (blk_cell BK156.out 3).trans rfl
                have hcz58_4 : wc.cell? ⟨gb156, 4, none⟩ = some (.int .i64 a0_4) := (blk_cell BK156.out 4).trans rfl
                have hcz58_5 : wc.cell? ⟨gb156, 5, none⟩ = some (.string a0_5) := (blk_cell BK156.out 5).trans rfl
                have hfz58_0 := blk_frozen BK156.out 0
                have hfz58_1 := blk_frozen BK156.out 1
                have hfz58_2 := blk_frozen BK156.out 2
                have hfz58_3 := blk_frozen BK156.out 3
                have hfz58_4 := blk_frozen BK156.out 4
                have hfz58_5 := blk_frozen BK156.out 5
                go_wp2
                go_meet
                case rel => exact ⟨_, ((a0_3.toList != ([] : List UInt8))), (by first | rfl | (simp; done) | (simp [*]; done) | (simp; generalize ByteArray.toList _ = l_; cases l_ <;> rfl)), H', ⟨by have := HJ2.out; have := HJ15.out; have := HJ23.out; have := HJ32.out; have := HJ41.out; first | omega | exact Nat.le_refl _⟩, ⟨by (with_reducible repeat (first | refine blk_drewN ?_ _ | refine blk_drew ?_ | refine blk_alloc ?_ _)); exact BK156.out⟩, ⟨by (with_reducible repeat (first | refine blk_drewN ?_ _ | refine blk_drew ?_ | refine blk_alloc ?_ _)); exact BK164.out⟩, ⟨by repeat (first | (with_reducible first | exact HB.out | apply below_alloc | apply pw_below_drewN | apply below_drew1 | refine below_set ?_ GE156.out | refine below_set ?_ GE164.out) | exact HB.out)⟩⟩
             case rest =>
              clear HC51
              try clear c1
              try clear c2
              try clear p2
              try clear c3
              try clear c4
              try clear c5
              try clear c8
              try clear c11
              try clear c11b0
              try clear c11b1
              try clear c13
              try clear c17
              try clear c18
              try clear c20
              try clear c23
              try clear c25
              try clear c27
              try clear c28
              try clear c31
              try clear c34
              try clear c35
              try clear c36
              try clear c38
              try clear c41
              try clear c43
              try clear c45
              try clear c49
              try clear c52
              try clear c53
              try clear c54
              try clear c56
              try clear hcz10_0
              try clear hcz10_1
              try clear hcz10_2
              try clear hcz10_3
              try clear hcz10_4
              try clear hcz10_5
              try clear hcz14_0
              try clear hcz14_1
              try clear hcz14_2
              try clear hcz14_3
              try clear hcz14_4
              try clear hcz14_5
              try clear hcz21_0
              try clear hcz21_1
              try clear hcz21_2
              try clear hcz21_3
              try clear hcz21_4
              try clear hcz21_5
              try clear hcz28_0
              try clear hcz28_1
              try clear hcz28_2
              try clear hcz28_3
              try clear hcz28_4
              try clear hcz28_5
              try clear hcz29_0
              try clear hcz29_1
              try clear hcz29_2
              try clear hcz29_3
              try clear hcz29_4
              try clear hcz29_5
              try clear hcz32_0
              try clear hcz32_1
              try clear hcz32_2
              try clear hcz32_3
              try clear hcz32_4
              try clear hcz32_5
              try clear hcz37_0
              try clear hcz37_1
              try clear hcz37_2
              try clear hcz37_3
              try clear hcz37_4
              try clear hcz37_5
              try clear hcz39_0
              try clear hcz39_1
              try clear hcz39_2
              try clear hcz39_3
              try clear hcz39_4
              try clear hcz39_5
              try clear hcz40_0
              try clear hcz40_1
              try clear hcz40_2
              try clear hcz40_3
              try clear hcz40_4
              try clear hcz40_5
              try clear hcz46_0
              try clear hcz46_1
              try clear hcz46_2
              try clear hcz46_3
              try clear hcz46_4
              try clear hcz46_5
              try clear hcz47_0
              try clear hcz47_1
              try clear hcz47_2
              try clear hcz47_3
              try clear hcz47_4
              try clear hcz47_5
              try clear hcz50_0
              try clear hcz50_1
              try clear hcz50_2
              try clear hcz50_3
              try clear hcz50_4
              try clear hcz50_5
              try clear hcz55_0
              try clear hcz55_1
              try clear hcz55_2
              try clear hcz55_3
              try clear hcz55_4
              try clear hcz55_5
              try clear hcz57_0
              try clear hcz57_1
              try clear hcz57_2
              try clear hcz57_3
              try clear hcz57_4
              try clear hcz57_5
              try clear hcz58_0
              try clear hcz58_1
              try clear hcz58_2
              try clear hcz58_3
              try clear hcz58_4
              try clear hcz58_5
              try clear hcz5_0
              try clear hcz5_1
              try clear hcz5_2
              try clear hcz5_3
              try clear hcz5_4
              try clear hcz5_5
              try clear hcz9_0
              try clear hcz9_1
              try clear hcz9_2
              try clear hcz9_3
              try clear hcz9_4
              try clear hcz9_5
              try clear hfz10_0
              try clear hfz10_1
              try clear hfz10_2
              try clear hfz10_3
              try clear hfz10_4
              try clear hfz10_5
              try clear hfz14_0
              try clear hfz14_1
              try clear hfz14_2
              try clear hfz14_3
              try clear hfz14_4
              try clear hfz14_5
              try clear hfz21_0
              try clear hfz21_1
              try clear hfz21_2
              try clear hfz21_3
              try clear hfz21_4
              try clear hfz21_5
              try clear hfz28_0
              try clear hfz28_1
              try clear hfz28_2
              try clear hfz28_3
              try clear hfz28_4
              try clear hfz28_5
              try clear hfz29_0
              try clear hfz29_1
              try clear hfz29_2
              try clear hfz29_3
              try clear hfz29_4
              try clear hfz29_5
              try clear hfz32_0
              try clear hfz32_1
              try clear hfz32_2
              try clear hfz32_3
              try clear hfz32_4
              try clear hfz32_5
              try clear hfz37_0
              try clear hfz37_1
              try clear hfz37_2
              try clear hfz37_3
              try clear hfz37_4
              try clear hfz37_5
              try clear hfz39_0
              try clear hfz39_1
              try clear hfz39_2
              try clear hfz39_3
              try clear hfz39_4
              try clear hfz39_5
              try clear hfz40_0
              try clear hfz40_1
              try clear hfz40_2
              try clear hfz40_3
              try clear hfz40_4
              try clear hfz40_5
              try clear hfz46_0
              try clear hfz46_1
              try clear hfz46_2
              try clear hfz46_3
              try clear hfz46_4
              try clear hfz46_5
              try clear hfz47_0
              try clear hfz47_1
              try clear hfz47_2
              try clear hfz47_3
              try clear hfz47_4
              try clear hfz47_5
              try clear hfz50_0
              try clear hfz50_1
              try clear hfz50_2
              try clear hfz50_3
              try clear hfz50_4
              try clear hfz50_5
              try clear hfz55_0
              try clear hfz55_1
              try clear hfz55_2
              try clear hfz55_3
              try clear hfz55_4
              try clear hfz55_5
              try clear hfz57_0
              try clear hfz57_1
              try clear hfz57_2
              try clear hfz57_3
              try clear hfz57_4
              try clear hfz57_5
              try clear hfz58_0
              try clear hfz58_1
              try clear hfz58_2
              try clear hfz58_3
              try clear hfz58_4
              try clear hfz58_5
              try clear hfz5_0
              try clear hfz5_1
              try clear hfz5_2
              try clear hfz5_3
              try clear hfz5_4
              try clear hfz5_5
              try clear hfz9_0
              try clear hfz9_1
              try clear hfz9_2
              try clear hfz9_3
              try clear hfz9_4
              try clear hfz9_5
              try clear p2
              obtain ⟨kq, x46_50, rfl, HA, HJ50, BK156, BK164, HB⟩ := hcut
              cases kq with
              | zero => exact absurd HA.out (by simp [cmd_check.j5])
              | succ kj50 =>
               have H := HA.out
               clear HA
               simp only [cmd_check.j5] at H
               by_cases c59 : x46_50 = true
               ·subst c59
                have H1 : (some (some 190)) = some r := by rw [if_pos rfl] at H; exact H
                clear H
                have H := H1
                clear H1
                obtain rfl := Option.some.inj H
                go_wp2
                go_ret
                exact ⟨by first | rfl | (simp [errW_none, errW_some] <;> rfl) | (simp [*, errW_none, errW_some] <;> rfl), by repeat (first | (with_reducible first | exact HB.out | apply below_alloc | apply pw_below_drewN | apply below_drew1 | refine below_set ?_ GE156.out | refine below_set ?_ GE164.out) | exact HB.out)⟩
               ·replace c59 := Bool.eq_false_iff.mpr c59
                subst c59
                have H1 : (if a0_4 < t161 then (some (some 190)) else (if a0_4 > t162 then (some (some 190)) else (some none))) = some r := by rw [if_neg (show ¬ (false = true) by decide)] at H; exact H
                clear H
                have H := H1
                clear H1
                by_cases c60 : a0_4 < t161
                ·rw [if_pos c60] at H
                 have c60b0 : decide (a0_4 < t161) = true := decide_eq_true c60
                 clear c60
                 obtain rfl := Option.some.inj H
                 have hnb61 := NB156_164.out
                 have hnc61 := NB164_156.out
                 have hcz62_0 : wc.cell? ⟨gb156, 0, none⟩ = some (.int .i64 a0_0) := (blk_cell BK156.out 0).trans rfl
                 have hcz62_1 : wc.cell? ⟨gb156, 1, none⟩ = some (.string a0_1) := (blk_cell BK156.out 1).trans rfl
                 have hcz62_2 : wc.cell? ⟨gb156, 2, none⟩ = some (.string a0_2) := (blk_cell BK156.out 2).trans rfl
                 have hcz62_3 : wc.cell? ⟨gb156, 3, none⟩ = some (.string a0_3) := (blk_cell BK156.out 3).trans rfl
                 have hcz62_4 : wc.cell? ⟨gb156, 4, none⟩ = some (.int .i64 a0_4) := (blk_cell BK156.out 4).trans rfl
                 have hcz62_5 : wc.cell? ⟨gb156, 5, none⟩ = some (.string a0_5) := (blk_cell BK156.out 5).trans rfl
                 have hfz62_0 := blk_frozen BK156.out 0
                 have hfz62_1 := blk_frozen BK156.out 1
                 have hfz62_2 := blk_frozen BK156.out 2
                 have hfz62_3 := blk_frozen BK156.out 3
                 have hfz62_4 := blk_frozen BK156.out 4
                 have hfz62_5 := blk_frozen BK156.out 5
                 have hcz63_0 : wc.cell? ⟨gb164, 0, none⟩ = some (.bool t157) := (blk_cell BK164.out 0).trans rfl
                 have hcz63_1 : wc.cell? ⟨gb164, 1, none⟩ = some (.bool t158) := (blk_cell BK164.out 1).trans rfl
                 have hcz63_2 : wc.cell? ⟨gb164, 2, none⟩ = some (.bool t159) := (blk_cell BK164.out 2).trans rfl
                 have hcz63_3 : wc.cell? ⟨gb164, 3, none⟩ = some (.bool t160) := (blk_cell BK164.out 3).trans rfl
                 have hcz63_4 : wc.cell? ⟨gb164, 4, none⟩ = some (.int .i64 t161) := (blk_cell BK164.out 4).trans rfl
                 have hcz63_5 : wc.cell? ⟨gb164, 5, none⟩ = some (.int .i64 t162) := (blk_cell BK164.out 5).trans rfl
                 have hfz63_0 := blk_frozen BK164.out 0
                 have hfz63_1 := blk_frozen BK164.out 1
                 have hfz63_2 := blk_frozen BK164.out 2
                 have hfz63_3 := blk_frozen BK164.out 3
                 have hfz63_4 := blk_frozen BK164.out 4
                 have hfz63_5 := blk_frozen BK164.out 5
                 go_wp2
                 go_ret
                 exact ⟨by first | rfl | (simp [errW_none, errW_some] <;> rfl) | (simp [*, errW_none, errW_some] <;> rfl), by repeat (first | (with_reducible first | exact HB.out | apply below_alloc | apply pw_below_drewN | apply below_drew1 | refine below_set ?_ GE156.out | refine below_set ?_ GE164.out) | exact HB.out)⟩
                ·rw [if_neg c60] at H
                 have c60b0 : decide (a0_4 < t161) = false := decide_eq_false c60
                 clear c60
                 by_cases c64 : a0_4 > t162
                 ·rw [if_pos c64] at H
                  have c64b0 : decide (t162 < a0_4) = true := decide_eq_true c64
                  clear c64
                  obtain rfl := Option.some.inj H
                  have hnb65 := NB156_164.out
                  have hnc65 := NB164_156.out
                  have hcz66_0 : wc.cell? ⟨gb156, 0, none⟩ = some (.int .i64 a0_0) := (blk_cell BK156.out 0).trans rfl
                  have hcz66_1 : wc.cell? ⟨gb156, 1, none⟩ = some (.string a0_1) := (blk_cell BK156.out 1).trans rfl
                  have hcz66_2 : wc.cell? ⟨gb156, 2, none⟩ = some (.string a0_2) := (blk_cell BK156.out 2).trans rfl
                  have hcz66_3 : wc.cell? ⟨gb156, 3, none⟩ = some (.string a0_3) := (blk_cell BK156.out 3).trans rfl
                  have hcz66_4 : wc.cell? ⟨gb156, 4, none⟩ = some (.int .i64 a0_4) := (blk_cell BK156.out 4).trans rfl
                  have hcz66_5 : wc.cell? ⟨gb156, 5, none⟩ = some (.string a0_5) := (blk_cell BK156.out 5).trans rfl
                  have hfz66_0 := blk_frozen BK156.out 0
                  have hfz66_1 := blk_frozen BK156.out 1
                  have hfz66_2 := blk_frozen BK156.out 2
                  have hfz66_3 := blk_frozen BK156.out 3
                  have hfz66_4 := blk_frozen BK156.out 4
                  have hfz66_5 := blk_frozen BK156.out 5
                  have hcz67_0 : wc.cell? ⟨gb164, 0, none⟩ = some (.bool t157) := (blk_cell BK164.out 0).trans rfl
                  have hcz67_1 : wc.cell? ⟨gb164, 1, none⟩ = some (.bool t158) := (blk_cell BK164.out 1).trans rfl
                  have hcz67_2 : wc.cell? ⟨gb164, 2, none⟩ = some (.bool t159) := (blk_cell BK164.out 2).trans rfl
                  have hcz67_3 : wc.cell? ⟨gb164, 3, none⟩ = some (.bool t160) := (blk_cell BK164.out 3).trans rfl
                  have hcz67_4 : wc.cell? ⟨gb164, 4, none⟩ = some (.int .i64 t161) := (blk_cell BK164.out 4).trans rfl
                  have hcz67_5 : wc.cell? ⟨gb164, 5, none⟩ = some (.int .i64 t162) := (blk_cell BK164.out 5).trans rfl
                  have hfz67_0 := blk_frozen BK164.out 0
                  have hfz67_1 := blk_frozen BK164.out 1
                  have hfz67_2 := blk_frozen BK164.out 2
                  have hfz67_3 := blk_frozen BK164.out 3
                  have hfz67_4 := blk_frozen BK164.out 4
                  have hfz67_5 := blk_frozen BK164.out 5
                  go_wp2
                  go_ret
                  exact ⟨by first | rfl | (simp [errW_none, errW_some] <;> rfl) | (simp [*, errW_none, errW_some] <;> rfl), by repeat (first | (with_reducible first | exact HB.out | apply below_alloc | apply pw_below_drewN | apply below_drew1 | refine below_set ?_ GE156.out | refine below_set ?_ GE164.out) | exact HB.out)⟩
                 ·rw [if_neg c64] at H
                  have c64b0 : decide (t162 < a0_4) = false := decide_eq_false c64
                  clear c64
                  obtain rfl := Option.some.inj H
                  have hnb68 := NB156_164.out
                  have hnc68 := NB164_156.out
                  have hcz69_0 : wc.cell? ⟨gb156, 0, none⟩ = some (.int .i64 a0_0) := (blk_cell BK156.out 0).trans rfl
                  have hcz69_1 : wc.cell? ⟨gb156, 1, none⟩ = some (.string a0_1) := (blk_cell BK156.out 1).trans rfl
                  have hcz69_2 : wc.cell? ⟨gb156, 2, none⟩ = some (.string a0_2) := (blk_cell BK156.out 2).trans rfl
                  have hcz69_3 : wc.cell? ⟨gb156, 3, none⟩ = some (.string a0_3) := (blk_cell BK156.out 3).trans rfl
                  have hcz69_4 : wc.cell? ⟨gb156, 4, none⟩ = some (.int .i64 a0_4) := (blk_cell BK156.out 4).trans rfl
                  have hcz69_5 : wc.cell? ⟨gb156, 5, none⟩ = some (.string a0_5) := (blk_cell BK156.out 5).trans rfl
                  have hfz69_0 := blk_frozen BK156.out 0
                  have hfz69_1 := blk_frozen BK156.out 1
                  have hfz69_2 := blk_frozen BK156.out 2
                  have hfz69_3 := blk_frozen BK156.out 3
                  have hfz69_4 := blk_frozen BK156.out 4
                  have hfz69_5 := blk_frozen BK156.out 5
                  have hcz70_0 : wc.cell? ⟨gb164, 0, none⟩ = some (.bool t157) := (blk_cell BK164.out 0).trans rfl
                  have hcz70_1 : wc.cell? ⟨gb164, 1, none⟩ = some (.bool t158) := (blk_cell BK164.out 1).trans rfl
                  have hcz70_2 : wc.cell? ⟨gb164, 2, none⟩ = some (.bool t159) := (blk_cell BK164.out 2).trans rfl
                  have hcz70_3 : wc.cell? ⟨gb164, 3, none⟩ = some (.bool t160) := (blk_cell BK164.out 3).trans rfl
                  have hcz70_4 : wc.cell? ⟨gb164, 4, none⟩ = some (.int .i64 t161) := (blk_cell BK164.out 4).trans rfl
                  have hcz70_5 : wc.cell? ⟨gb164, 5, none⟩ = some (.int .i64 t162) := (blk_cell BK164.out 5).trans rfl
                  have hfz70_0 := blk_frozen BK164.out 0
                  have hfz70_1 := blk_frozen BK164.out 1
                  have hfz70_2 := blk_frozen BK164.out 2
                  have hfz70_3 := blk_frozen BK164.out 3
                  have hfz70_4 := blk_frozen BK164.out 4
                  have hfz70_5 := blk_frozen BK164.out 5
                  go_wp2
                  go_ret
                  exact ⟨by first | rfl | (simp [errW_none, errW_some] <;> rfl) | (simp [*, errW_none, errW_some] <;> rfl), by repeat (first | (with_reducible first | exact HB.out | apply below_alloc | apply pw_below_drewN | apply below_drew1 | refine below_set ?_ GE156.out | refine below_set ?_ GE164.out) | exact HB.out)⟩

end Go.Proofs.YtofdpgcnconibaaGreatDoor.PA
