-- WRITTEN BY a program of this session (pp.sh)
import Derived.Test.YtofdpgcnconibaaGreatDoorPAx0
import Derived.Test.YtofdpgcnconibaaGreatDoorPAx12
import Derived.Test.YtofdpgcnconibaaGreatDoorPAx16
namespace Go.Proofs.YtofdpgcnconibaaGreatDoor.PA
open Go.RowKit Go.Proofs.YtofdpgcnconibaaGreatDoorW.PrintWords Go.Proofs.YtofdpgcnconibaaGreatDoorW.PrintLast Go.Proofs.YtofdpgcnconibaaGreatDoorW.PrintMore Go.Proofs.YtofdpgcnconibaaGreatDoor.Plain
attribute [local go_sem] max2_int min2_int max_two min_two max_three min_three max_four min_four binOp_leq_s binOp_gtr_s binOp_geq_s lit_byte   -- for this text's walks alone
set_option linter.unusedVariables false
set_option linter.unusedSimpArgs false

/-! ### cmd_Decode: function 14 -/
def cmd_Decode.f (k : Nat) (a0 : ByteArray) : Option (Int × ByteArray × ByteArray × ByteArray × Int × ByteArray × Int × Int × Int × Int) := (cmd_decode.f k a0).bind fun bt218 => ((api_Tell.f bt218.2.2.2.2.2.2.2).bind fun bt227 => (some (bt218.1, bt218.2.1, bt218.2.2.1, bt218.2.2.2.1, bt218.2.2.2.2.1, bt218.2.2.2.2.2.1, bt218.2.2.2.2.2.2.1, bt227.1, bt227.2.1, bt227.2.2)))
set_option maxHeartbeats 8000000 in
set_option maxRecDepth 100000 in
theorem cmd_Decode.calls (k : Nat) (a0 : ByteArray) (r1 : Int) (r2 : ByteArray) (r3 : ByteArray) (r4 : ByteArray) (r5 : Int) (r6 : ByteArray) (r7 : Int) (r8 : Int) (r9 : Int) (r10 : Int) (w : World) (hT : Tabs w) (h : cmd_Decode.f k a0 = some (r1, r2, r3, r4, r5, r6, r7, r8, r9, r10)) :
  Calls Tryz.prog 14 #[.string a0] w fun e w' => e = .returned (.tuple #[.agg #[.int .i64 r1, .string r2, .string r3, .string r4, .int .i64 r5, .string r6], .int .i64 r7, .agg #[.int .i64 r8, .int .i64 r9, .int .i64 r10]]) ∧ Below w.heap.size w w' := by
 have hu23 := Tryz.underlying23
 have hu30 := Tryz.underlying30
 have HB := Aside0.mk (Below.refl w.heap.size w)
 have H : ((cmd_decode.f k a0).bind fun bt218 => ((api_Tell.f bt218.2.2.2.2.2.2.2).bind fun bt227 => (some (bt218.1, bt218.2.1, bt218.2.2.1, bt218.2.2.2.1, bt218.2.2.2.2.1, bt218.2.2.2.2.2.1, bt218.2.2.2.2.2.2.1, bt227.1, bt227.2.1, bt227.2.2)))) = some (r1, r2, r3, r4, r5, r6, r7, r8, r9, r10) := h
 clear h
 replace H := Option.bind_eq_some_iff.mp H
 obtain ⟨⟨t218, t219, t220, t221, t222, t223, t224, t225⟩, A20, H⟩ := H
 replace H : ((api_Tell.f t225).bind fun bt227 => (some (t218, t219, t220, t221, t222, t223, t224, bt227.1, bt227.2.1, bt227.2.2))) = some (r1, r2, r3, r4, r5, r6, r7, r8, r9, r10) := H
 have A2 := Aside0.mk A20
 clear A20
 replace H := Option.bind_eq_some_iff.mp H
 obtain ⟨⟨t227, t228, t229⟩, A30, H⟩ := H
 replace H : (some (t218, t219, t220, t221, t222, t223, t224, t227, t228, t229)) = some (r1, r2, r3, r4, r5, r6, r7, r8, r9, r10) := H
 have A3 := Aside0.mk A30
 clear A30
 simp only [Option.some.injEq, Prod.mk.injEq] at H
 obtain ⟨rfl, rfl, rfl, rfl, rfl, rfl, rfl, rfl, rfl, rfl⟩ := H
 go_enter Tryz.func14, Tryz.ntmps14
 try go_wp2_with (first | ((with_reducible refine gate_dst (N := 2) rfl ?_); refine box_event ?hg (N := 2) ?hd (cs := #[.int .i64 0, .string (⟨#[]⟩ : ByteArray), .string (⟨#[]⟩ : ByteArray), .string (⟨#[]⟩ : ByteArray), .int .i64 0, .string (⟨#[]⟩ : ByteArray)]) (t := 23) ?hr ?_; (case hd => rfl); (case hg => rfl); (case hr => first | (go_simp; done) | (go_simp; rfl)); intro gb216 hg w4 hbox hb; have n0_ := Aside0.mk (below_step (by repeat (first | (with_reducible first | exact HB.out | apply below_alloc | apply pw_below_drewN | apply below_drew1) | exact HB.out)) hb); have n1_ := Aside0.mk (hbox); have n2_ := Aside0.mk ((by rw [hg]; exact (below_size (by repeat (first | (with_reducible first | exact HB.out | apply below_alloc | apply pw_below_drewN | apply below_drew1) | exact HB.out))) : w.heap.size ≤ gb216)); have n3_ := Aside0.mk ((by rw [hg]; exact (below_size (by repeat (first | (with_reducible first | exact HB.out | apply below_alloc | apply pw_below_drewN | apply below_drew1) | exact HB.out))) : w.heap.size ≤ gb216)); clear HB; have HB := n0_; have BK216 := n1_; have GW216 := n2_; have GE216 := n3_; clear n0_ n1_ n2_ n3_; clear hb hbox hg) | ((with_reducible refine gate_dst (N := 4) rfl ?_); refine box_event ?hg (N := 4) ?hd (cs := #[.int .i64 0, .int .i64 0, .int .i64 0]) (t := 30) ?hr ?_; (case hd => rfl); (case hg => rfl); (case hr => first | (go_simp; done) | (go_simp; rfl)); intro gb217 hg w5 hbox hb; have n0_ := Aside0.mk (blk_below (g := gb216) (o := .cells #[.int .i64 0, .string (⟨#[]⟩ : ByteArray), .string (⟨#[]⟩ : ByteArray), .string (⟨#[]⟩ : ByteArray), .int .i64 0, .string (⟨#[]⟩ : ByteArray)] 23 (0, 0)) (by (with_reducible repeat (first | refine blk_drewN ?_ _ | refine blk_drew ?_ | refine blk_alloc ?_ _)); exact BK216.out) hb); have n1_ := Aside0.mk (below_step (by repeat (first | (with_reducible first | exact HB.out | apply below_alloc | apply pw_below_drewN | apply below_drew1 | refine below_set ?_ GE216.out) | exact HB.out)) hb); have n2_ := Aside0.mk (hbox); have n3_ := Aside0.mk ((by rw [hg]; exact (below_size (by repeat (first | (with_reducible first | exact HB.out | apply below_alloc | apply pw_below_drewN | apply below_drew1 | refine below_set ?_ GE216.out) | exact HB.out))) : w.heap.size ≤ gb217)); have n4_ := Aside0.mk ((by rw [hg]; exact (below_size (by repeat (first | (with_reducible first | exact HB.out | apply below_alloc | apply pw_below_drewN | apply below_drew1 | refine below_set ?_ GE216.out) | exact HB.out))) : w.heap.size ≤ gb217)); have n5_ := Aside0.mk ((by rw [hg]; exact Nat.ne_of_lt (blk_lt (g := gb216) (o := .cells #[.int .i64 0, .string (⟨#[]⟩ : ByteArray), .string (⟨#[]⟩ : ByteArray), .string (⟨#[]⟩ : ByteArray), .int .i64 0, .string (⟨#[]⟩ : ByteArray)] 23 (0, 0)) (by (with_reducible repeat (first | refine blk_drewN ?_ _ | refine blk_drew ?_ | refine blk_alloc ?_ _)); exact BK216.out)) : gb216 ≠ gb217)); have n6_ := Aside0.mk ((by rw [hg]; exact Nat.ne_of_gt (blk_lt (g := gb216) (o := .cells #[.int .i64 0, .string (⟨#[]⟩ : ByteArray), .string (⟨#[]⟩ : ByteArray), .string (⟨#[]⟩ : ByteArray), .int .i64 0, .string (⟨#[]⟩ : ByteArray)] 23 (0, 0)) (by (with_reducible repeat (first | refine blk_drewN ?_ _ | refine blk_drew ?_ | refine blk_alloc ?_ _)); exact BK216.out)) : gb217 ≠ gb216)); clear BK216; clear HB; have BK216 := n0_; have HB := n1_; have BK217 := n2_; have GW217 := n3_; have GE217 := n4_; have NB216_217 := n5_; have NB217_216 := n6_; clear n0_ n1_ n2_ n3_ n4_ n5_ n6_; clear hb hbox hg) | ((with_reducible refine gate_callee (f := 29) rfl ?_); refine goesL_ (some 10) rfl rfl Tryz.func29 (by kernel_rfl) rfl #[.string a0] rfl (by (try simp only [List.map_toArray, List.map_cons, List.map_nil]); first | done | rfl | (simp only [List.length_drop, List.length_take]; rfl)) ?_; (with_reducible refine (cmd_decode.calls k a0 t218 t219 t220 t221 t222 t223 t224 t225 _ ?side1 A2.out).mono ?_); (case side1 => exact Tabs.on hT (by repeat (first | (with_reducible first | exact HB.out | apply below_alloc | apply pw_below_drewN | apply below_drew1 | refine below_set ?_ GE216.out | refine below_set ?_ GE217.out) | exact HB.out))); rintro e w6 ⟨rfl, hb⟩; refine ⟨_, rfl, ?_⟩; have n0_ := Aside0.mk (blk_below (g := gb216) (o := .cells #[.int .i64 0, .string (⟨#[]⟩ : ByteArray), .string (⟨#[]⟩ : ByteArray), .string (⟨#[]⟩ : ByteArray), .int .i64 0, .string (⟨#[]⟩ : ByteArray)] 23 (0, 0)) (by (with_reducible repeat (first | refine blk_drewN ?_ _ | refine blk_drew ?_ | refine blk_alloc ?_ _)); exact BK216.out) hb); have n1_ := Aside0.mk (blk_below (g := gb217) (o := .cells #[.int .i64 0, .int .i64 0, .int .i64 0] 30 (0, 0)) (by (with_reducible repeat (first | refine blk_drewN ?_ _ | refine blk_drew ?_ | refine blk_alloc ?_ _)); exact BK217.out) hb); have n2_ := Aside0.mk (below_step (by repeat (first | (with_reducible first | exact HB.out | apply below_alloc | apply pw_below_drewN | apply below_drew1 | refine below_set ?_ GE216.out | refine below_set ?_ GE217.out) | exact HB.out)) hb); clear BK216; clear BK217; clear HB; have BK216 := n0_; have BK217 := n1_; have HB := n2_; clear n0_ n1_ n2_; (try clear hb); (try clear hb2); (try clear hk); (try clear hi); (try simp only [errW_none, errW_some])) | ((with_reducible refine gate_dst (N := 5) rfl ?_); refine box_event ?hg (N := 5) ?hd (cs := #[.int .i64 0, .string (⟨#[]⟩ : ByteArray), .string (⟨#[]⟩ : ByteArray), .string (⟨#[]⟩ : ByteArray), .int .i64 0, .string (⟨#[]⟩ : ByteArray)]) (t := 23) ?hr ?_; (case hd => rfl); (case hg => rfl); (case hr => first | (go_simp; done) | (go_simp; rfl)); intro gb226 hg w7 hbox hb; have n0_ := Aside0.mk (blk_below (g := gb216) (o := .cells #[.int .i64 0, .string (⟨#[]⟩ : ByteArray), .string (⟨#[]⟩ : ByteArray), .string (⟨#[]⟩ : ByteArray), .int .i64 0, .string (⟨#[]⟩ : ByteArray)] 23 (0, 0)) (by (with_reducible repeat (first | refine blk_drewN ?_ _ | refine blk_drew ?_ | refine blk_alloc ?_ _)); exact BK216.out) hb); have n1_ := Aside0.mk (blk_below (g := gb217) (o := .cells #[.int .i64 0, .int .i64 0, .int .i64 0] 30 (0, 0)) (by (with_reducible repeat (first | refine blk_drewN ?_ _ | refine blk_drew ?_ | refine blk_alloc ?_ _)); exact BK217.out) hb); have n2_ := Aside0.mk (below_step (by repeat (first | (with_reducible first | exact HB.out | apply below_alloc | apply pw_below_drewN | apply below_drew1 | refine below_set ?_ GE216.out | refine below_set ?_ GE217.out) | exact HB.out)) hb); have n3_ := Aside0.mk (hbox); have n4_ := Aside0.mk ((by rw [hg]; exact (below_size (by repeat (first | (with_reducible first | exact HB.out | apply below_alloc | apply pw_below_drewN | apply below_drew1 | refine below_set ?_ GE216.out | refine below_set ?_ GE217.out) | exact HB.out))) : w.heap.size ≤ gb226)); have n5_ := Aside0.mk ((by rw [hg]; exact (below_size (by repeat (first | (with_reducible first | exact HB.out | apply below_alloc | apply pw_below_drewN | apply below_drew1 | refine below_set ?_ GE216.out | refine below_set ?_ GE217.out) | exact HB.out))) : w.heap.size ≤ gb226)); have n6_ := Aside0.mk ((by rw [hg]; exact Nat.ne_of_lt (blk_lt (g := gb216) (o := .cells #[.int .i64 0, .string (⟨#[]⟩ : ByteArray), .string (⟨#[]⟩ : ByteArray), .string (⟨#[]⟩ : ByteArray), .int .i64 0, .string (⟨#[]⟩ : ByteArray)] 23 (0, 0)) (by (with_reducible repeat (first | refine blk_drewN ?_ _ | refine blk_drew ?_ | refine blk_alloc ?_ _)); exact BK216.out)) : gb216 ≠ gb226)); have n7_ := Aside0.mk ((by rw [hg]; exact Nat.ne_of_gt (blk_lt (g := gb216) (o := .cells #[.int .i64 0, .string (⟨#[]⟩ : ByteArray), .string (⟨#[]⟩ : ByteArray), .string (⟨#[]⟩ : ByteArray), .int .i64 0, .string (⟨#[]⟩ : ByteArray)] 23 (0, 0)) (by (with_reducible repeat (first | refine blk_drewN ?_ _ | refine blk_drew ?_ | refine blk_alloc ?_ _)); exact BK216.out)) : gb226 ≠ gb216)); have n8_ := Aside0.mk ((by rw [hg]; exact Nat.ne_of_lt (blk_lt (g := gb217) (o := .cells #[.int .i64 0, .int .i64 0, .int .i64 0] 30 (0, 0)) (by (with_reducible repeat (first | refine blk_drewN ?_ _ | refine blk_drew ?_ | refine blk_alloc ?_ _)); exact BK217.out)) : gb217 ≠ gb226)); have n9_ := Aside0.mk ((by rw [hg]; exact Nat.ne_of_gt (blk_lt (g := gb217) (o := .cells #[.int .i64 0, .int .i64 0, .int .i64 0] 30 (0, 0)) (by (with_reducible repeat (first | refine blk_drewN ?_ _ | refine blk_drew ?_ | refine blk_alloc ?_ _)); exact BK217.out)) : gb226 ≠ gb217)); clear BK216; clear BK217; clear HB; have BK216 := n0_; have BK217 := n1_; have HB := n2_; have BK226 := n3_; have GW226 := n4_; have GE226 := n5_; have NB216_226 := n6_; have NB226_216 := n7_; have NB217_226 := n8_; have NB226_217 := n9_; clear n0_ n1_ n2_ n3_ n4_ n5_ n6_ n7_ n8_ n9_; clear hb hbox hg; have hnb8 := NB226_216.out; have hnc8 := NB216_226.out; have hnb9 := NB226_217.out; have hnc9 := NB217_226.out; have hcz10_0 : w7.cell? ⟨gb226, 0, none⟩ = some (.int .i64 0) := (blk_cell BK226.out 0).trans rfl; have hcz10_1 : w7.cell? ⟨gb226, 1, none⟩ = some (.string (⟨#[]⟩ : ByteArray)) := (blk_cell BK226.out 1).trans rfl; have hcz10_2 : w7.cell? ⟨gb226, 2, none⟩ = some (.string (⟨#[]⟩ : ByteArray)) := (blk_cell BK226.out 2).trans rfl; have hcz10_3 : w7.cell? ⟨gb226, 3, none⟩ = some (.string (⟨#[]⟩ : ByteArray)) := (blk_cell BK226.out 3).trans rfl; have hcz10_4 : w7.cell? ⟨gb226, 4, none⟩ = some (.int .i64 0) := (blk_cell BK226.out 4).trans rfl; have hcz10_5 : w7.cell? ⟨gb226, 5, none⟩ = some (.string (⟨#[]⟩ : ByteArray)) := (blk_cell BK226.out 5).trans rfl; have hfz10_0 := blk_frozen BK226.out 0; have hfz10_1 := blk_frozen BK226.out 1; have hfz10_2 := blk_frozen BK226.out 2; have hfz10_3 := blk_frozen BK226.out 3; have hfz10_4 := blk_frozen BK226.out 4; have hfz10_5 := blk_frozen BK226.out 5))
 have n0_ : Aside0 (((((((w7.setCell ⟨gb226, 0, none⟩ (.int .i64 t218)).setCell ⟨gb226, 1, none⟩ (.string t219)).setCell ⟨gb226, 2, none⟩ (.string t220)).setCell ⟨gb226, 3, none⟩ (.string t221)).setCell ⟨gb226, 4, none⟩ (.int .i64 t222)).setCell ⟨gb226, 5, none⟩ (.string t223)).heap[gb216]? = some (.cells #[.int .i64 0, .string (⟨#[]⟩ : ByteArray), .string (⟨#[]⟩ : ByteArray), .string (⟨#[]⟩ : ByteArray), .int .i64 0, .string (⟨#[]⟩ : ByteArray)] 23 (0, 0))) := ⟨by (with_reducible repeat (first | refine blk_drewN ?_ _ | refine blk_drew ?_ | refine blk_alloc ?_ _)); refine blk_far ?_ NB216_226.out _; (with_reducible repeat (first | refine blk_drewN ?_ _ | refine blk_drew ?_ | refine blk_alloc ?_ _)); refine blk_far ?_ NB216_226.out _; (with_reducible repeat (first | refine blk_drewN ?_ _ | refine blk_drew ?_ | refine blk_alloc ?_ _)); refine blk_far ?_ NB216_226.out _; (with_reducible repeat (first | refine blk_drewN ?_ _ | refine blk_drew ?_ | refine blk_alloc ?_ _)); refine blk_far ?_ NB216_226.out _; (with_reducible repeat (first | refine blk_drewN ?_ _ | refine blk_drew ?_ | refine blk_alloc ?_ _)); refine blk_far ?_ NB216_226.out _; (with_reducible repeat (first | refine blk_drewN ?_ _ | refine blk_drew ?_ | refine blk_alloc ?_ _)); refine blk_far ?_ NB216_226.out _; (with_reducible repeat (first | refine blk_drewN ?_ _ | refine blk_drew ?_ | refine blk_alloc ?_ _)); exact BK216.out⟩
 have n1_ : Aside0 (((((((w7.setCell ⟨gb226, 0, none⟩ (.int .i64 t218)).setCell ⟨gb226, 1, none⟩ (.string t219)).setCell ⟨gb226, 2, none⟩ (.string t220)).setCell ⟨gb226, 3, none⟩ (.string t221)).setCell ⟨gb226, 4, none⟩ (.int .i64 t222)).setCell ⟨gb226, 5, none⟩ (.string t223)).heap[gb217]? = some (.cells #[.int .i64 0, .int .i64 0, .int .i64 0] 30 (0, 0))) := ⟨by (with_reducible repeat (first | refine blk_drewN ?_ _ | refine blk_drew ?_ | refine blk_alloc ?_ _)); refine blk_far ?_ NB217_226.out _; (with_reducible repeat (first | refine blk_drewN ?_ _ | refine blk_drew ?_ | refine blk_alloc ?_ _)); refine blk_far ?_ NB217_226.out _; (with_reducible repeat (first | refine blk_drewN ?_ _ | refine blk_drew ?_ | refine blk_alloc ?_ _)); refine blk_far ?_ NB217_226.out _; (with_reducible repeat (first | refine blk_drewN ?_ _ | refine blk_drew ?_ | refine blk_alloc ?_ _)); refine blk_far ?_ NB217_226.out _; (with_reducible repeat (first | refine blk_drewN ?_ _ | refine blk_drew ?_ | refine blk_alloc ?_ _)); refine blk_far ?_ NB217_226.out _; (with_reducible repeat (first | refine blk_drewN ?_ _ | refine blk_drew ?_ | refine blk_alloc ?_ _)); refine blk_far ?_ NB217_226.out _; (with_reducible repeat (first | refine blk_drewN ?_ _ | refine blk_drew ?_ | refine blk_alloc ?_ _)); exact BK217.out⟩
 have n2_ : Aside0 (((((((w7.setCell ⟨gb226, 0, none⟩ (.int .i64 t218)).setCell ⟨gb226, 1, none⟩ (.string t219)).setCell ⟨gb226, 2, none⟩ (.string t220)).setCell ⟨gb226, 3, none⟩ (.string t221)).setCell ⟨gb226, 4, none⟩ (.int .i64 t222)).setCell ⟨gb226, 5, none⟩ (.string t223)).heap[gb226]? = some (.cells #[.int .i64 t218, .string t219, .string t220, .string t221, .int .i64 t222, .string t223] 23 (0, 0))) := ⟨by (with_reducible repeat (first | refine blk_drewN ?_ _ | refine blk_drew ?_ | refine blk_alloc ?_ _)); refine blk_put (cs := #[.int .i64 t218, .string t219, .string t220, .string t221, .int .i64 t222, .string (⟨#[]⟩ : ByteArray)]) ?_ 5 _ rfl; (with_reducible repeat (first | refine blk_drewN ?_ _ | refine blk_drew ?_ | refine blk_alloc ?_ _)); refine blk_put (cs := #[.int .i64 t218, .string t219, .string t220, .string t221, .int .i64 0, .string (⟨#[]⟩ : ByteArray)]) ?_ 4 _ rfl; (with_reducible repeat (first | refine blk_drewN ?_ _ | refine blk_drew ?_ | refine blk_alloc ?_ _)); refine blk_put (cs := #[.int .i64 t218, .string t219, .string t220, .string (⟨#[]⟩ : ByteArray), .int .i64 0, .string (⟨#[]⟩ : ByteArray)]) ?_ 3 _ rfl; (with_reducible repeat (first | refine blk_drewN ?_ _ | refine blk_drew ?_ | refine blk_alloc ?_ _)); refine blk_put (cs := #[.int .i64 t218, .string t219, .string (⟨#[]⟩ : ByteArray), .string (⟨#[]⟩ : ByteArray), .int .i64 0, .string (⟨#[]⟩ : ByteArray)]) ?_ 2 _ rfl; (with_reducible repeat (first | refine blk_drewN ?_ _ | refine blk_drew ?_ | refine blk_alloc ?_ _)); refine blk_put (cs := #[.int .i64 t218, .string (⟨#[]⟩ : ByteArray), .string (⟨#[]⟩ : ByteArray), .string (⟨#[]⟩ : ByteArray), .int .i64 0, .string (⟨#[]⟩ : ByteArray)]) ?_ 1 _ rfl; (with_reducible repeat (first | refine blk_drewN ?_ _ | refine blk_drew ?_ | refine blk_alloc ?_ _)); refine blk_put (cs := #[.int .i64 0, .string (⟨#[]⟩ : ByteArray), .string (⟨#[]⟩ : ByteArray), .string (⟨#[]⟩ : ByteArray), .int .i64 0, .string (⟨#[]⟩ : ByteArray)]) ?_ 0 _ rfl; (with_reducible repeat (first | refine blk_drewN ?_ _ | refine blk_drew ?_ | refine blk_alloc ?_ _)); exact BK226.out⟩
 have n3_ : Aside0 (Below w.heap.size w ((((((w7.setCell ⟨gb226, 0, none⟩ (.int .i64 t218)).setCell ⟨gb226, 1, none⟩ (.string t219)).setCell ⟨gb226, 2, none⟩ (.string t220)).setCell ⟨gb226, 3, none⟩ (.string t221)).setCell ⟨gb226, 4, none⟩ (.int .i64 t222)).setCell ⟨gb226, 5, none⟩ (.string t223))) := ⟨by repeat (first | (with_reducible first | exact HB.out | apply below_alloc | apply pw_below_drewN | apply below_drew1 | refine below_set ?_ GE216.out | refine below_set ?_ GE217.out | refine below_set ?_ GE226.out) | exact HB.out)⟩
 (try clear BK216)
 (try clear BK217)
 (try clear BK226)
 (try clear HB)
 generalize ((((((w7.setCell ⟨gb226, 0, none⟩ (.int .i64 t218)).setCell ⟨gb226, 1, none⟩ (.string t219)).setCell ⟨gb226, 2, none⟩ (.string t220)).setCell ⟨gb226, 3, none⟩ (.string t221)).setCell ⟨gb226, 4, none⟩ (.int .i64 t222)).setCell ⟨gb226, 5, none⟩ (.string t223)) = w11 at n0_ n1_ n2_ n3_ ⊢
 have BK216 := n0_
 have BK217 := n1_
 have BK226 := n2_
 have HB := n3_
 clear n0_ n1_ n2_ n3_
 have n0_ := Aside0.mk (blk_drew BK216.out)
 have n1_ := Aside0.mk (blk_drew BK217.out)
 have n2_ := Aside0.mk (blk_drew BK226.out)
 have n3_ := Aside0.mk (below_drew1 HB.out)
 clear BK216
 clear BK217
 clear BK226
 clear HB
 have BK216 := n0_
 have BK217 := n1_
 have BK226 := n2_
 have HB := n3_
 clear n0_ n1_ n2_ n3_
 have CA3 := fun W (hW_ : Tabs W) => api_Tell.calls t225 t227 t228 t229 W hW_ A3.out
 try simp only [errW_none, errW_some] at CA3
 refine start_ (n := 7) (S := fun w' => w'.cell? ⟨gb226, 0, none⟩ = some (.int .i64 t218) ∧ w'.cell? ⟨gb226, 1, none⟩ = some (.string t219) ∧ w'.cell? ⟨gb226, 2, none⟩ = some (.string t220) ∧ w'.cell? ⟨gb226, 3, none⟩ = some (.string t221) ∧ w'.cell? ⟨gb226, 4, none⟩ = some (.int .i64 t222) ∧ w'.cell? ⟨gb226, 5, none⟩ = some (.string t223)) (ds := []) #[false, false, false, false, false, false, false] (by kernel_rfl) rfl rfl ⟨(blk_cell BK226.out 0).trans rfl, (blk_cell BK226.out 1).trans rfl, (blk_cell BK226.out 2).trans rfl, (blk_cell BK226.out 3).trans rfl, (blk_cell BK226.out 4).trans rfl, (blk_cell BK226.out 5).trans rfl⟩ (fun hHeld => ?_)
 generalize w11.drew = w12 at BK216 BK217 BK226 HB hHeld ⊢
 refine pure_ (i := 1) (N := some 15) (v := ?_) (a' := ?_) #[false, true, false, false, false, false, false] rfl rfl (by kernel_rfl) (fun _ _ _ h => h) (Or.inl ⟨by rfl, ?_⟩) ?_ ?_
 rotate_left
 ·intro w'
  go_simp
  with_reducible rfl
 rotate_left
 ·simp only [Act.put, List.setIfInBounds_toArray, List.set_cons_zero, List.set_cons_succ, i64_w, i32_w]
  rfl
 refine pure_ (i := 2) (N := some 16) (v := ?_) (a' := ?_) #[false, true, true, false, false, false, false] rfl rfl (by kernel_rfl) (fun _ _ _ h => h) (Or.inl ⟨by rfl, ?_⟩) ?_ ?_
 rotate_left
 ·intro w'
  go_simp
  with_reducible rfl
 rotate_left
 ·simp only [Act.put, List.setIfInBounds_toArray, List.set_cons_zero, List.set_cons_succ, i64_w, i32_w]
  rfl
 refine take_ (i := 0) (N := some 14) (v := ?_) (a' := ?_) #[true, true, true, false, false, false, false] rfl rfl (by kernel_rfl) (fun _ _ _ h => h) (Or.inl ⟨by rfl, ?_⟩) hHeld ?_ ?_
 rotate_left
 ·rintro w' ⟨s0, s1, s2, s3, s4, s5⟩
  go_simp
  with_reducible rfl
 rotate_left
 ·simp only [Act.put, List.setIfInBounds_toArray, List.set_cons_zero, List.set_cons_succ, i64_w, i32_w]
  rfl
 refine one_ (i := 3) (N := some 17) #[true, true, true, true, false, false, false] rfl rfl (by kernel_rfl) (by decide) (fun K hK => ?_)
 refine goes_ Tryz.func22 (by kernel_rfl) rfl #[errW t225] (by rfl) rfl rfl (by (try simp only [List.map_toArray, List.map_cons, List.map_nil]); first | done | rfl | (simp only [List.length_drop, List.length_take]; rfl)) ?_
 with_reducible refine (CA3 _ ?side1).mono ?_
 (case side1 => exact Tabs.on hT (by repeat (first | (with_reducible first | exact HB.out | apply below_alloc | apply pw_below_drewN | apply below_drew1 | refine below_set ?_ GE216.out | refine below_set ?_ GE217.out | refine below_set ?_ GE226.out) | exact HB.out)))
 rintro e w13 ⟨rfl, hb⟩
 refine ⟨_, rfl, ?_⟩
 have n0_ := Aside0.mk (blk_below (g := gb216) (o := .cells #[.int .i64 0, .string (⟨#[]⟩ : ByteArray), .string (⟨#[]⟩ : ByteArray), .string (⟨#[]⟩ : ByteArray), .int .i64 0, .string (⟨#[]⟩ : ByteArray)] 23 (0, 0)) (by (with_reducible repeat (first | refine blk_drewN ?_ _ | refine blk_drew ?_ | refine blk_alloc ?_ _)); exact BK216.out) hb)
 have n1_ := Aside0.mk (blk_below (g := gb217) (o := .cells #[.int .i64 0, .int .i64 0, .int .i64 0] 30 (0, 0)) (by (with_reducible repeat (first | refine blk_drewN ?_ _ | refine blk_drew ?_ | refine blk_alloc ?_ _)); exact BK217.out) hb)
 have n2_ := Aside0.mk (blk_below (g := gb226) (o := .cells #[.int .i64 t218, .string t219, .string t220, .string t221, .int .i64 t222, .string t223] 23 (0, 0)) (by (with_reducible repeat (first | refine blk_drewN ?_ _ | refine blk_drew ?_ | refine blk_alloc ?_ _)); exact BK226.out) hb)
 have n3_ := Aside0.mk (below_step (by repeat (first | (with_reducible first | exact HB.out | apply below_alloc | apply pw_below_drewN | apply below_drew1 | refine below_set ?_ GE216.out | refine below_set ?_ GE217.out | refine below_set ?_ GE226.out) | exact HB.out)) hb)
 clear BK216
 clear BK217
 clear BK226
 clear HB
 have BK216 := n0_
 have BK217 := n1_
 have BK226 := n2_
 have HB := n3_
 clear n0_ n1_ n2_ n3_
 (try clear hb)
 (try clear hb2)
 (try clear hk)
 (try clear hi)
 refine hK.out _ _ ⟨(blk_cell BK226.out 0).trans rfl, (blk_cell BK226.out 1).trans rfl, (blk_cell BK226.out 2).trans rfl, (blk_cell BK226.out 3).trans rfl, (blk_cell BK226.out 4).trans rfl, (blk_cell BK226.out 5).trans rfl⟩ (fun hHeld => ?_)
 clear hK K
 refine norm_ (a' := ?_) ?_ ?_
 rotate_left
 ·show Act.put _ (some 17) _ = _
  simp only [Act.put, List.setIfInBounds_toArray, List.set_cons_zero, List.set_cons_succ, i64_w, i32_w]
  rfl
 refine one_ (i := 4) (N := none) #[true, true, true, true, true, false, false] rfl rfl (by kernel_rfl) (by decide) (fun K hK => ?_)
 have hs14 : w13.cell? ⟨gb216, 0, none⟩ = some (.int .i64 0) := (blk_cell BK216.out 0).trans rfl
 have hfs14 := blk_frozen BK216.out 0
 have hns14_1 := NB217_216.out
 have hns14_2 := NB226_216.out
 have hms14_1 := NB216_217.out
 have hms14_2 := NB216_226.out
 have hs15 : w13.cell? ⟨gb216, 1, none⟩ = some (.string (⟨#[]⟩ : ByteArray)) := (blk_cell BK216.out 1).trans rfl
 have hfs15 := blk_frozen BK216.out 1
 have hns15_1 := NB217_216.out
 have hns15_2 := NB226_216.out
 have hms15_1 := NB216_217.out
 have hms15_2 := NB216_226.out
 have hs16 : w13.cell? ⟨gb216, 2, none⟩ = some (.string (⟨#[]⟩ : ByteArray)) := (blk_cell BK216.out 2).trans rfl
 have hfs16 := blk_frozen BK216.out 2
 have hns16_1 := NB217_216.out
 have hns16_2 := NB226_216.out
 have hms16_1 := NB216_217.out
 have hms16_2 := NB216_226.out
 have hs17 : w13.cell? ⟨gb216, 3, none⟩ = some (.string (⟨#[]⟩ : ByteArray)) := (blk_cell BK216.out 3).trans rfl
 have hfs17 := blk_frozen BK216.out 3
 have hns17_1 := NB217_216.out
 have hns17_2 := NB226_216.out
 have hms17_1 := NB216_217.out
 have hms17_2 := NB216_226.out
 have hs18 : w13.cell? ⟨gb216, 4, none⟩ = some (.int .i64 0) := (blk_cell BK216.out 4).trans rfl
 have hfs18 := blk_frozen BK216.out 4
 have hns18_1 := NB217_216.out
 have hns18_2 := NB226_216.out
 have hms18_1 := NB216_217.out
 have hms18_2 := NB216_226.out
 have hs19 : w13.cell? ⟨gb216, 5, none⟩ = some (.string (⟨#[]⟩ : ByteArray)) := (blk_cell BK216.out 5).trans rfl
 have hfs19 := blk_frozen BK216.out 5
 have hns19_1 := NB217_216.out
 have hns19_2 := NB226_216.out
 have hms19_1 := NB216_217.out
 have hms19_2 := NB216_226.out
 refine skip_ (w1 := ?_) (by rfl) rfl ?_ ?_
 rotate_left
 ·go_simp
  rfl
 refine hK.out _ _ ⟨((cell_far (p := ⟨gb216, _, none⟩) NB226_216.out _).trans (((cell_far (p := ⟨gb216, _, none⟩) NB226_216.out _).trans (((cell_far (p := ⟨gb216, _, none⟩) NB226_216.out _).trans (((cell_far (p := ⟨gb216, _, none⟩) NB226_216.out _).trans (((cell_far (p := ⟨gb216, _, none⟩) NB226_216.out _).trans (((cell_far (p := ⟨gb216, _, none⟩) NB226_216.out _).trans (hHeld.1)))))))))))), ((cell_far (p := ⟨gb216, _, none⟩) NB226_216.out _).trans (((cell_far (p := ⟨gb216, _, none⟩) NB226_216.out _).trans (((cell_far (p := ⟨gb216, _, none⟩) NB226_216.out _).trans (((cell_far (p := ⟨gb216, _, none⟩) NB226_216.out _).trans (((cell_far (p := ⟨gb216, _, none⟩) NB226_216.out _).trans (((cell_far (p := ⟨gb216, _, none⟩) NB226_216.out _).trans (hHeld.2.1)))))))))))), ((cell_far (p := ⟨gb216, _, none⟩) NB226_216.out _).trans (((cell_far (p := ⟨gb216, _, none⟩) NB226_216.out _).trans (((cell_far (p := ⟨gb216, _, none⟩) NB226_216.out _).trans (((cell_far (p := ⟨gb216, _, none⟩) NB226_216.out _).trans (((cell_far (p := ⟨gb216, _, none⟩) NB226_216.out _).trans (((cell_far (p := ⟨gb216, _, none⟩) NB226_216.out _).trans (hHeld.2.2.1)))))))))))), ((cell_far (p := ⟨gb216, _, none⟩) NB226_216.out _).trans (((cell_far (p := ⟨gb216, _, none⟩) NB226_216.out _).trans (((cell_far (p := ⟨gb216, _, none⟩) NB226_216.out _).trans (((cell_far (p := ⟨gb216, _, none⟩) NB226_216.out _).trans (((cell_far (p := ⟨gb216, _, none⟩) NB226_216.out _).trans (((cell_far (p := ⟨gb216, _, none⟩) NB226_216.out _).trans (hHeld.2.2.2.1)))))))))))), ((cell_far (p := ⟨gb216, _, none⟩) NB226_216.out _).trans (((cell_far (p := ⟨gb216, _, none⟩) NB226_216.out _).trans (((cell_far (p := ⟨gb216, _, none⟩) NB226_216.out _).trans (((cell_far (p := ⟨gb216, _, none⟩) NB226_216.out _).trans (((cell_far (p := ⟨gb216, _, none⟩) NB226_216.out _).trans (((cell_far (p := ⟨gb216, _, none⟩) NB226_216.out _).trans (hHeld.2.2.2.2.1)))))))))))), ((cell_far (p := ⟨gb216, _, none⟩) NB226_216.out _).trans (((cell_far (p := ⟨gb216, _, none⟩) NB226_216.out _).trans (((cell_far (p := ⟨gb216, _, none⟩) NB226_216.out _).trans (((cell_far (p := ⟨gb216, _, none⟩) NB226_216.out _).trans (((cell_far (p := ⟨gb216, _, none⟩) NB226_216.out _).trans (((cell_far (p := ⟨gb216, _, none⟩) NB226_216.out _).trans (hHeld.2.2.2.2.2))))))))))))⟩ (fun hHeld => ?_)
 clear hK K
 refine pure_ (i := 5) (N := some 3) (v := ?_) (a' := ?_) #[true, true, true, true, true, true, false] rfl rfl (by kernel_rfl) (fun _ _ _ h => h) (Or.inl ⟨by rfl, ?_⟩) ?_ ?_
 rotate_left
 ·intro w'
  go_simp
  with_reducible rfl
 rotate_left
 ·simp only [Act.put, List.setIfInBounds_toArray, List.set_cons_zero, List.set_cons_succ, i64_w, i32_w]
  rfl
 refine one_ (i := 6) (N := none) #[true, true, true, true, true, true, true] rfl rfl (by kernel_rfl) (by decide) (fun K hK => ?_)
 have hs20 : w13.cell? ⟨gb217, 0, none⟩ = some (.int .i64 0) := (blk_cell BK217.out 0).trans rfl
 have hfs20 := blk_frozen BK217.out 0
 have hns20_0 := NB216_217.out
 have hns20_2 := NB226_217.out
 have hms20_0 := NB217_216.out
 have hms20_2 := NB217_226.out
 have hs21 : w13.cell? ⟨gb217, 1, none⟩ = some (.int .i64 0) := (blk_cell BK217.out 1).trans rfl
 have hfs21 := blk_frozen BK217.out 1
 have hns21_0 := NB216_217.out
 have hns21_2 := NB226_217.out
 have hms21_0 := NB217_216.out
 have hms21_2 := NB217_226.out
 have hs22 : w13.cell? ⟨gb217, 2, none⟩ = some (.int .i64 0) := (blk_cell BK217.out 2).trans rfl
 have hfs22 := blk_frozen BK217.out 2
 have hns22_0 := NB216_217.out
 have hns22_2 := NB226_217.out
 have hms22_0 := NB217_216.out
 have hms22_2 := NB217_226.out
 refine skip_ (w1 := ?_) (by rfl) rfl ?_ ?_
 rotate_left
 ·go_simp
  rfl
 refine hK.out _ _ ⟨((cell_far (p := ⟨gb217, _, none⟩) NB226_217.out _).trans (((cell_far (p := ⟨gb217, _, none⟩) NB226_217.out _).trans (((cell_far (p := ⟨gb217, _, none⟩) NB226_217.out _).trans (hHeld.1)))))), ((cell_far (p := ⟨gb217, _, none⟩) NB226_217.out _).trans (((cell_far (p := ⟨gb217, _, none⟩) NB226_217.out _).trans (((cell_far (p := ⟨gb217, _, none⟩) NB226_217.out _).trans (hHeld.2.1)))))), ((cell_far (p := ⟨gb217, _, none⟩) NB226_217.out _).trans (((cell_far (p := ⟨gb217, _, none⟩) NB226_217.out _).trans (((cell_far (p := ⟨gb217, _, none⟩) NB226_217.out _).trans (hHeld.2.2.1)))))), ((cell_far (p := ⟨gb217, _, none⟩) NB226_217.out _).trans (((cell_far (p := ⟨gb217, _, none⟩) NB226_217.out _).trans (((cell_far (p := ⟨gb217, _, none⟩) NB226_217.out _).trans (hHeld.2.2.2.1)))))), ((cell_far (p := ⟨gb217, _, none⟩) NB226_217.out _).trans (((cell_far (p := ⟨gb217, _, none⟩) NB226_217.out _).trans (((cell_far (p := ⟨gb217, _, none⟩) NB226_217.out _).trans (hHeld.2.2.2.2.1)))))), ((cell_far (p := ⟨gb217, _, none⟩) NB226_217.out _).trans (((cell_far (p := ⟨gb217, _, none⟩) NB226_217.out _).trans (((cell_far (p := ⟨gb217, _, none⟩) NB226_217.out _).trans (hHeld.2.2.2.2.2))))))⟩ (fun hHeld => ?_)
 clear hK K
 refine done_ (by kernel_rfl) ?_
 try go_wp2
 refine bodyPost_ret (results_list (rs := [.cell 2 23, .tmp 3, .cell 4 30]) rfl (by simp) (.cell gb216 23 #[.int .i64 t218, .string t219, .string t220, .string t221, .int .i64 t222, .string t223] (0, 0) _ rfl (by (with_reducible repeat (first | refine blk_drewN ?_ _ | refine blk_drew ?_ | refine blk_alloc ?_ _)); refine blk_far ?_ NB216_217.out _; (with_reducible repeat (first | refine blk_drewN ?_ _ | refine blk_drew ?_ | refine blk_alloc ?_ _)); refine blk_far ?_ NB216_217.out _; (with_reducible repeat (first | refine blk_drewN ?_ _ | refine blk_drew ?_ | refine blk_alloc ?_ _)); refine blk_far ?_ NB216_217.out _; (with_reducible repeat (first | refine blk_drewN ?_ _ | refine blk_drew ?_ | refine blk_alloc ?_ _)); refine blk_put (cs := #[.int .i64 t218, .string t219, .string t220, .string t221, .int .i64 t222, .string (⟨#[]⟩ : ByteArray)]) ?_ 5 _ rfl; (with_reducible repeat (first | refine blk_drewN ?_ _ | refine blk_drew ?_ | refine blk_alloc ?_ _)); refine blk_put (cs := #[.int .i64 t218, .string t219, .string t220, .string t221, .int .i64 0, .string (⟨#[]⟩ : ByteArray)]) ?_ 4 _ rfl; (with_reducible repeat (first | refine blk_drewN ?_ _ | refine blk_drew ?_ | refine blk_alloc ?_ _)); refine blk_put (cs := #[.int .i64 t218, .string t219, .string t220, .string (⟨#[]⟩ : ByteArray), .int .i64 0, .string (⟨#[]⟩ : ByteArray)]) ?_ 3 _ rfl; (with_reducible repeat (first | refine blk_drewN ?_ _ | refine blk_drew ?_ | refine blk_alloc ?_ _)); refine blk_put (cs := #[.int .i64 t218, .string t219, .string (⟨#[]⟩ : ByteArray), .string (⟨#[]⟩ : ByteArray), .int .i64 0, .string (⟨#[]⟩ : ByteArray)]) ?_ 2 _ rfl; (with_reducible repeat (first | refine blk_drewN ?_ _ | refine blk_drew ?_ | refine blk_alloc ?_ _)); refine blk_put (cs := #[.int .i64 t218, .string (⟨#[]⟩ : ByteArray), .string (⟨#[]⟩ : ByteArray), .string (⟨#[]⟩ : ByteArray), .int .i64 0, .string (⟨#[]⟩ : ByteArray)]) ?_ 1 _ rfl; (with_reducible repeat (first | refine blk_drewN ?_ _ | refine blk_drew ?_ | refine blk_alloc ?_ _)); refine blk_put (cs := #[.int .i64 0, .string (⟨#[]⟩ : ByteArray), .string (⟨#[]⟩ : ByteArray), .string (⟨#[]⟩ : ByteArray), .int .i64 0, .string (⟨#[]⟩ : ByteArray)]) ?_ 0 _ rfl; (with_reducible repeat (first | refine blk_drewN ?_ _ | refine blk_drew ?_ | refine blk_alloc ?_ _)); exact BK216.out) Tryz.underlying23 rfl (by kernel_rfl) (.tmp (.cell gb217 30 #[.int .i64 t227, .int .i64 t228, .int .i64 t229] (0, 0) _ rfl (by (with_reducible repeat (first | refine blk_drewN ?_ _ | refine blk_drew ?_ | refine blk_alloc ?_ _)); refine blk_put (cs := #[.int .i64 t227, .int .i64 t228, .int .i64 0]) ?_ 2 _ rfl; (with_reducible repeat (first | refine blk_drewN ?_ _ | refine blk_drew ?_ | refine blk_alloc ?_ _)); refine blk_put (cs := #[.int .i64 t227, .int .i64 0, .int .i64 0]) ?_ 1 _ rfl; (with_reducible repeat (first | refine blk_drewN ?_ _ | refine blk_drew ?_ | refine blk_alloc ?_ _)); refine blk_put (cs := #[.int .i64 0, .int .i64 0, .int .i64 0]) ?_ 0 _ rfl; (with_reducible repeat (first | refine blk_drewN ?_ _ | refine blk_drew ?_ | refine blk_alloc ?_ _)); refine blk_far ?_ NB217_216.out _; (with_reducible repeat (first | refine blk_drewN ?_ _ | refine blk_drew ?_ | refine blk_alloc ?_ _)); refine blk_far ?_ NB217_216.out _; (with_reducible repeat (first | refine blk_drewN ?_ _ | refine blk_drew ?_ | refine blk_alloc ?_ _)); refine blk_far ?_ NB217_216.out _; (with_reducible repeat (first | refine blk_drewN ?_ _ | refine blk_drew ?_ | refine blk_alloc ?_ _)); refine blk_far ?_ NB217_216.out _; (with_reducible repeat (first | refine blk_drewN ?_ _ | refine blk_drew ?_ | refine blk_alloc ?_ _)); refine blk_far ?_ NB217_216.out _; (with_reducible repeat (first | refine blk_drewN ?_ _ | refine blk_drew ?_ | refine blk_alloc ?_ _)); refine blk_far ?_ NB217_216.out _; (with_reducible repeat (first | refine blk_drewN ?_ _ | refine blk_drew ?_ | refine blk_alloc ?_ _)); exact BK217.out) Tryz.underlying30 rfl (by kernel_rfl) .nil)))) rfl ?_
 exact ⟨by first | rfl | (simp [errW_none, errW_some] <;> rfl) | (simp [*, errW_none, errW_some] <;> rfl), by repeat (first | (with_reducible first | exact HB.out | apply below_alloc | apply pw_below_drewN | apply below_drew1 | refine below_set ?_ GE216.out | refine below_set ?_ GE217.out | refine below_set ?_ GE226.out) | exact HB.out)⟩

end Go.Proofs.YtofdpgcnconibaaGreatDoor.PA
