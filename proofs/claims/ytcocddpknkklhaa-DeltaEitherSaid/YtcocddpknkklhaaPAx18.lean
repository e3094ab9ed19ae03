-- WRITTEN BY a program of this session (pp.sh)
import Derived.Test.YtcocddpknkklhaaPAx0
import Derived.Test.YtcocddpknkklhaaPAx14
import Derived.Test.YtcocddpknkklhaaPAx17
namespace Go.Proofs.Ytcocddpknkklhaa.PA
open Go.RowKit Go.Proofs.YtcocddpknkklhaaW.PrintWords Go.Proofs.YtcocddpknkklhaaW.PrintLast Go.Proofs.YtcocddpknkklhaaW.PrintMore Go.Proofs.Ytcocddpknkklhaa.Plain
attribute [local go_sem] max2_int min2_int max_two min_two max_three min_three max_four min_four binOp_leq_s binOp_gtr_s binOp_geq_s lit_byte   -- for this text's walks alone
set_option linter.unusedVariables false
set_option linter.unusedSimpArgs false

/-! ### delta_touches: function 49 -/
def delta_touches.j0 : Nat → ByteArray → Bool → Int → Int → ByteArray → Int → Option (ByteArray)
 | 0, _, _, _, _, _, _ => none
 | k + 1, x0, x10, x186000, x186001, x186002, x186003 => if x10 = true then (some (⟨#[]⟩ : ByteArray)) else (if x186000 = 100 then (some x0) else ((key_Make.f k 105 x186001 (⟨#[]⟩ : ByteArray) 0).bind fun bt186 => (some bt186.1)))
def delta_touches.f (k : Nat) (a0 : ByteArray) : Option (ByteArray) := (key_Parse.f k a0).bind fun bt180 => (if bt180.2.2.2.2 = 0 then (delta_touches.j0 k a0 (bt180.1 == 110) bt180.1 bt180.2.1 bt180.2.2.1 bt180.2.2.2.1) else (delta_touches.j0 k a0 true bt180.1 bt180.2.1 bt180.2.2.1 bt180.2.2.2.1))
theorem delta_touches.mono_l : ∀ k, (∀ y0 y1 y2 y3 y4 y5, LeO (delta_touches.j0 k y0 y1 y2 y3 y4 y5) (delta_touches.j0 (k + 1) y0 y1 y2 y3 y4 y5))
 | 0 => fun _ _ _ _ _ _ r h => by simp [delta_touches.j0] at h
 | k + 1 => by
  have ih0 := delta_touches.mono_l k
  ·intro y0 y1 y2 y3 y4 y5
   unfold delta_touches.j0
   repeat' first
   | (with_reducible exact ih0 _ _ _ _ _ _)
   | (with_reducible exact key_Make.mono _ _ _ _ _)
   | (with_reducible exact key_Parse.mono _ _)
   | (with_reducible exact LeO.refl _)
   | (with_reducible exact LeO.none _)
   | (with_reducible refine LeO.ite ?_ ?_)
   | (with_reducible refine LeO.bind ?_ (fun _ => ?_))
   | exact ih0 _ _ _ _ _ _
   | exact key_Make.mono _ _ _ _ _
   | exact key_Parse.mono _ _
   | exact LeO.none _
   | refine LeO.ite ?_ ?_
   | refine LeO.bind ?_ (fun _ => ?_)
theorem delta_touches.mono : ∀ a0 k, LeO (delta_touches.f k a0) (delta_touches.f (k + 1) a0) := by
 intro a0 k
 have ih0 := delta_touches.mono_l k
 unfold delta_touches.f
 repeat' first
   | (with_reducible exact ih0 _ _ _ _ _ _)
   | (with_reducible exact key_Make.mono _ _ _ _ _)
   | (with_reducible exact key_Parse.mono _ _)
   | (with_reducible exact LeO.refl _)
   | (with_reducible exact LeO.none _)
   | (with_reducible refine LeO.ite ?_ ?_)
   | (with_reducible refine LeO.bind ?_ (fun _ => ?_))
   | exact ih0 _ _ _ _ _ _
   | exact key_Make.mono _ _ _ _ _
   | exact key_Parse.mono _ _
   | exact LeO.none _
   | refine LeO.ite ?_ ?_
   | refine LeO.bind ?_ (fun _ => ?_)
set_option maxHeartbeats 8000000 in
set_option maxRecDepth 100000 in
theorem delta_touches.calls (k : Nat) (a0 : ByteArray) (r : ByteArray) (w : World) (h : delta_touches.f k a0 = some r) :
  Calls Try.prog 49 #[.string a0] w fun e w' => e = .returned (.string r) ∧ Below w.heap.size w w' := by
 have hu90 := Try.underlying90
 have HB := Aside0.mk (Below.refl w.heap.size w)
 have H : ((key_Parse.f k a0).bind fun bt180 => (if bt180.2.2.2.2 = 0 then (delta_touches.j0 k a0 (bt180.1 == 110) bt180.1 bt180.2.1 bt180.2.2.1 bt180.2.2.2.1) else (delta_touches.j0 k a0 true bt180.1 bt180.2.1 bt180.2.2.1 bt180.2.2.2.1))) = some r := h
 clear h
 replace H := Option.bind_eq_some_iff.mp H
 obtain ⟨⟨t180, t181, t182, t183, t184⟩, A20, H⟩ := H
 replace H : (if t184 = 0 then (delta_touches.j0 k a0 (t180 == 110) t180 t181 t182 t183) else (delta_touches.j0 k a0 true t180 t181 t182 t183)) = some r := H
 have A2 := Aside0.mk A20
 clear A20
 have HC3 := Aside0.mk H
 clear H
 go_enter Try.func49, Try.ntmps49
 go_upto_region 2 with (first | ((with_reducible refine gate_callee (f := 68) rfl ?_); refine goesL_ (some 7) rfl rfl Try.func68 (by kernel_rfl) rfl #[.string a0] rfl (by (try simp only [List.map_toArray, List.map_cons, List.map_nil]); first | done | rfl | (simp only [List.length_drop, List.length_take]; rfl)) ?_; (with_reducible refine (key_Parse.calls k a0 t180 t181 t182 t183 t184 _ A2.out).mono ?_); rintro e w4 ⟨rfl, hb⟩; refine ⟨_, rfl, ?_⟩; have n0_ := Aside0.mk (below_step (by repeat (first | (with_reducible first | exact HB.out | apply below_alloc | apply pw_below_drewN | apply below_drew1) | exact HB.out)) hb); clear HB; have HB := n0_; clear n0_; (try clear hb); (try clear hb2); (try clear hk); (try clear hi)) | ((with_reducible refine gate_dst (N := 3) rfl ?_); refine box_event ?hg (N := 3) ?hd (cs := #[.int .u8 0, .int .i64 0, .string (⟨#[]⟩ : ByteArray), .int .i64 0]) (t := 90) ?hr ?_; (case hd => rfl); (case hg => rfl); (case hr => first | (go_simp; done) | (go_simp; rfl)); intro gb185 hg w5 hbox hb; have n0_ := Aside0.mk (below_step (by repeat (first | (with_reducible first | exact HB.out | apply below_alloc | apply pw_below_drewN | apply below_drew1) | exact HB.out)) hb); have n1_ := Aside0.mk (hbox); have n2_ := Aside0.mk ((by rw [hg]; exact (below_size (by repeat (first | (with_reducible first | exact HB.out | apply below_alloc | apply pw_below_drewN | apply below_drew1) | exact HB.out))) : w.heap.size ≤ gb185)); have n3_ := Aside0.mk ((by rw [hg]; exact (below_size (by repeat (first | (with_reducible first | exact HB.out | apply below_alloc | apply pw_below_drewN | apply below_drew1) | exact HB.out))) : w.heap.size ≤ gb185)); clear HB; have HB := n0_; have BK185 := n1_; have GW185 := n2_; have GE185 := n3_; clear n0_ n1_ n2_ n3_; clear hb hbox hg; have hcz6_0 : w5.cell? ⟨gb185, 0, none⟩ = some (.int .u8 0) := (blk_cell BK185.out 0).trans rfl; have hcz6_1 : w5.cell? ⟨gb185, 1, none⟩ = some (.int .i64 0) := (blk_cell BK185.out 1).trans rfl; have hcz6_2 : w5.cell? ⟨gb185, 2, none⟩ = some (.string (⟨#[]⟩ : ByteArray)) := (blk_cell BK185.out 2).trans rfl; have hcz6_3 : w5.cell? ⟨gb185, 3, none⟩ = some (.int .i64 0) := (blk_cell BK185.out 3).trans rfl; have hfz6_0 := blk_frozen BK185.out 0; have hfz6_1 := blk_frozen BK185.out 1; have hfz6_2 := blk_frozen BK185.out 2; have hfz6_3 := blk_frozen BK185.out 3))
 (try simp only [Act.put, List.setIfInBounds_toArray, List.set_cons_zero, List.set_cons_succ])
 go_cut [10] (fun v10 wc => ∃ (kq : Nat) (x10_2 : Bool), v10 = .bool x10_2 ∧ Aside0 (delta_touches.j0 kq a0 x10_2 t180 t181 t182 t183 = some r) ∧ Aside0 (kq ≤ k) ∧ Aside0 (wc.heap[gb185]? = some (.cells #[.int .u8 t180, .int .i64 t181, .string t182, .int .i64 t183] 90 (0, 0))) ∧ Aside0 (Below w.heap.size w wc))
 case first =>
  have H := HC3.out
  clear HC3
  by_cases c7 : t184 = 0
  ·rw [if_pos c7] at H
   have c7b0 : (t184 == 0) = true := beq_iff_eq.mpr c7
   have c7b1 : (t184 != 0) = false := bne_eq_false_iff_eq.mpr c7
   clear c7
   (first | rw [c7b0] | (simp only [i64_w, i32_w]; rw [c7b0]) | skip)
   have H' := Aside0.mk H
   clear H
   have hcz8_0 : w5.cell? ⟨gb185, 0, none⟩ = some (.int .u8 0) := (blk_cell BK185.out 0).trans rfl
   have hcz8_1 : w5.cell? ⟨gb185, 1, none⟩ = some (.int .i64 0) := (blk_cell BK185.out 1).trans rfl
   have hcz8_2 : w5.cell? ⟨gb185, 2, none⟩ = some (.string (⟨#[]⟩ : ByteArray)) := (blk_cell BK185.out 2).trans rfl
   have hcz8_3 : w5.cell? ⟨gb185, 3, none⟩ = some (.int .i64 0) := (blk_cell BK185.out 3).trans rfl
   have hfz8_0 := blk_frozen BK185.out 0
   have hfz8_1 := blk_frozen BK185.out 1
   have hfz8_2 := blk_frozen BK185.out 2
   have hfz8_3 := blk_frozen BK185.out 3
   go_wp2
   go_meet
   case rel => exact ⟨_, ((t180 == 110)), (by first | rfl | (simp; done) | (simp [*]; done)), H', ⟨by first | omega | exact Nat.le_refl _⟩, ⟨by (with_reducible repeat (first | refine blk_drewN ?_ _ | refine blk_drew ?_ | refine blk_alloc ?_ _)); refine blk_put (cs := #[.int .u8 t180, .int .i64 t181, .string t182, .int .i64 0]) ?_ 3 _ rfl; (with_reducible repeat (first | refine blk_drewN ?_ _ | refine blk_drew ?_ | refine blk_alloc ?_ _)); refine blk_put (cs := #[.int .u8 t180, .int .i64 t181, .string (⟨#[]⟩ : ByteArray), .int .i64 0]) ?_ 2 _ rfl; (with_reducible repeat (first | refine blk_drewN ?_ _ | refine blk_drew ?_ | refine blk_alloc ?_ _)); refine blk_put (cs := #[.int .u8 t180, .int .i64 0, .string (⟨#[]⟩ : ByteArray), .int .i64 0]) ?_ 1 _ rfl; (with_reducible repeat (first | refine blk_drewN ?_ _ | refine blk_drew ?_ | refine blk_alloc ?_ _)); refine blk_put (cs := #[.int .u8 0, .int .i64 0, .string (⟨#[]⟩ : ByteArray), .int .i64 0]) ?_ 0 _ rfl; (with_reducible repeat (first | refine blk_drewN ?_ _ | refine blk_drew ?_ | refine blk_alloc ?_ _)); exact BK185.out⟩, ⟨by repeat (first | (with_reducible first | exact HB.out | apply below_alloc | apply pw_below_drewN | apply below_drew1 | refine below_set ?_ GE185.out) | exact HB.out)⟩⟩
  ·rw [if_neg c7] at H
   have c7b0 : (t184 == 0) = false := beq_eq_false_iff_ne.mpr c7
   have c7b1 : (t184 != 0) = true := bne_iff_ne.mpr c7
   (first | rw [c7b0] | (simp only [i64_w, i32_w]; rw [c7b0]) | skip)
   have H' := Aside0.mk H
   clear H
   go_wp2
   go_meet
   case rel => exact ⟨_, (true), (by first | rfl | (simp; done) | (simp [*]; done)), H', ⟨by first | omega | exact Nat.le_refl _⟩, ⟨by (with_reducible repeat (first | refine blk_drewN ?_ _ | refine blk_drew ?_ | refine blk_alloc ?_ _)); refine blk_put (cs := #[.int .u8 t180, .int .i64 t181, .string t182, .int .i64 0]) ?_ 3 _ rfl; (with_reducible repeat (first | refine blk_drewN ?_ _ | refine blk_drew ?_ | refine blk_alloc ?_ _)); refine blk_put (cs := #[.int .u8 t180, .int .i64 t181, .string (⟨#[]⟩ : ByteArray), .int .i64 0]) ?_ 2 _ rfl; (with_reducible repeat (first | refine blk_drewN ?_ _ | refine blk_drew ?_ | refine blk_alloc ?_ _)); refine blk_put (cs := #[.int .u8 t180, .int .i64 0, .string (⟨#[]⟩ : ByteArray), .int .i64 0]) ?_ 1 _ rfl; (with_reducible repeat (first | refine blk_drewN ?_ _ | refine blk_drew ?_ | refine blk_alloc ?_ _)); refine blk_put (cs := #[.int .u8 0, .int .i64 0, .string (⟨#[]⟩ : ByteArray), .int .i64 0]) ?_ 0 _ rfl; (with_reducible repeat (first | refine blk_drewN ?_ _ | refine blk_drew ?_ | refine blk_alloc ?_ _)); exact BK185.out⟩, ⟨by repeat (first | (with_reducible first | exact HB.out | apply below_alloc | apply pw_below_drewN | apply below_drew1 | refine below_set ?_ GE185.out) | exact HB.out)⟩⟩
 case rest =>
  clear HC3
  try clear p2
  try clear c4
  try clear c6
  try clear c7
  try clear c7b0
  try clear c7b1
  try clear hcz6_0
  try clear hcz6_1
  try clear hcz6_2
  try clear hcz6_3
  try clear hcz8_0
  try clear hcz8_1
  try clear hcz8_2
  try clear hcz8_3
  try clear hfz6_0
  try clear hfz6_1
  try clear hfz6_2
  try clear hfz6_3
  try clear hfz8_0
  try clear hfz8_1
  try clear hfz8_2
  try clear hfz8_3
  obtain ⟨kq, x10_2, rfl, HA, HJ2, BK185, HB⟩ := hcut
  cases kq with
  | zero => exact absurd HA.out (by simp [delta_touches.j0])
  | succ kj2 =>
   have H := HA.out
   clear HA
   simp only [delta_touches.j0] at H
   by_cases c9 : x10_2 = true
   ·subst c9
    have H1 : (some (⟨#[]⟩ : ByteArray)) = some r := by rw [if_pos rfl] at H; exact H
    clear H
    have H := H1
    clear H1
    obtain rfl := Option.some.inj H
    go_wp2
    go_ret
    exact ⟨by first | rfl | (simp [errW_none, errW_some] <;> rfl) | (simp [*, errW_none, errW_some] <;> rfl), by repeat (first | (with_reducible first | exact HB.out | apply below_alloc | apply pw_below_drewN | apply below_drew1 | refine below_set ?_ GE185.out) | exact HB.out)⟩
   ·replace c9 := Bool.eq_false_iff.mpr c9
    subst c9
    have H1 : (if t180 = 100 then (some a0) else ((key_Make.f kj2 105 t181 (⟨#[]⟩ : ByteArray) 0).bind fun bt186 => (some bt186.1))) = some r := by rw [if_neg (show ¬ (false = true) by decide)] at H; exact H
    clear H
    have H := H1
    clear H1
    by_cases c10 : t180 = 100
    ·rw [if_pos c10] at H
     have c10b0 : (t180 == 100) = true := beq_iff_eq.mpr c10
     have c10b1 : (t180 != 100) = false := bne_eq_false_iff_eq.mpr c10
     clear c10
     obtain rfl := Option.some.inj H
     have hcz11_0 : wc.cell? ⟨gb185, 0, none⟩ = some (.int .u8 t180) := (blk_cell BK185.out 0).trans rfl
     have hcz11_1 : wc.cell? ⟨gb185, 1, none⟩ = some (.int .i64 t181) := (blk_cell BK185.out 1).trans rfl
     have hcz11_2 : wc.cell? ⟨gb185, 2, none⟩ = some (.string t182) := (blk_cell BK185.out 2).trans rfl
     have hcz11_3 : wc.cell? ⟨gb185, 3, none⟩ = some (.int .i64 t183) := (blk_cell BK185.out 3).trans rfl
     have hfz11_0 := blk_frozen BK185.out 0
     have hfz11_1 := blk_frozen BK185.out 1
     have hfz11_2 := blk_frozen BK185.out 2
     have hfz11_3 := blk_frozen BK185.out 3
     go_wp2
     go_ret
     exact ⟨by first | rfl | (simp [errW_none, errW_some] <;> rfl) | (simp [*, errW_none, errW_some] <;> rfl), by repeat (first | (with_reducible first | exact HB.out | apply below_alloc | apply pw_below_drewN | apply below_drew1 | refine below_set ?_ GE185.out) | exact HB.out)⟩
    ·rw [if_neg c10] at H
     have c10b0 : (t180 == 100) = false := beq_eq_false_iff_ne.mpr c10
     have c10b1 : (t180 != 100) = true := bne_iff_ne.mpr c10
     replace H := Option.bind_eq_some_iff.mp H
     obtain ⟨⟨t186, t187⟩, A120, H⟩ := H
     replace H : (some t186) = some r := H
     have A12 := Aside0.mk A120
     clear A120
     obtain rfl := Option.some.inj H
     have hcz13_0 : wc.cell? ⟨gb185, 0, none⟩ = some (.int .u8 t180) := (blk_cell BK185.out 0).trans rfl
     have hcz13_1 : wc.cell? ⟨gb185, 1, none⟩ = some (.int .i64 t181) := (blk_cell BK185.out 1).trans rfl
     have hcz13_2 : wc.cell? ⟨gb185, 2, none⟩ = some (.string t182) := (blk_cell BK185.out 2).trans rfl
     have hcz13_3 : wc.cell? ⟨gb185, 3, none⟩ = some (.int .i64 t183) := (blk_cell BK185.out 3).trans rfl
     have hfz13_0 := blk_frozen BK185.out 0
     have hfz13_1 := blk_frozen BK185.out 1
     have hfz13_2 := blk_frozen BK185.out 2
     have hfz13_3 := blk_frozen BK185.out 3
     go_wp2_with (first | ((with_reducible refine gate_callee (f := 69) rfl ?_); refine goesL_ (some 27) rfl rfl Try.func69 (by kernel_rfl) rfl #[.agg #[.int .u8 105, .int .i64 t181, .string (⟨#[]⟩ : ByteArray), .int .i64 0]] rfl (by (try simp only [List.map_toArray, List.map_cons, List.map_nil]); first | done | rfl | (simp only [List.length_drop, List.length_take]; rfl)) ?_; (with_reducible refine (key_Make.calls kj2 105 t181 (⟨#[]⟩ : ByteArray) 0 t186 t187 _ A12.out).mono ?_); rintro e w14 ⟨rfl, hb⟩; refine ⟨_, rfl, ?_⟩; have n0_ := Aside0.mk (blk_below (g := gb185) (o := .cells #[.int .u8 t180, .int .i64 t181, .string t182, .int .i64 t183] 90 (0, 0)) (by (with_reducible repeat (first | refine blk_drewN ?_ _ | refine blk_drew ?_ | refine blk_alloc ?_ _)); exact BK185.out) hb); have n1_ := Aside0.mk (below_step (by repeat (first | (with_reducible first | exact HB.out | apply below_alloc | apply pw_below_drewN | apply below_drew1 | refine below_set ?_ GE185.out) | exact HB.out)) hb); clear BK185; clear HB; have BK185 := n0_; have HB := n1_; clear n0_ n1_; (try clear hb); (try clear hb2); (try clear hk); (try clear hi)))
     go_ret
     exact ⟨by first | rfl | (simp [errW_none, errW_some] <;> rfl) | (simp [*, errW_none, errW_some] <;> rfl), by repeat (first | (with_reducible first | exact HB.out | apply below_alloc | apply pw_below_drewN | apply below_drew1 | refine below_set ?_ GE185.out) | exact HB.out)⟩

end Go.Proofs.Ytcocddpknkklhaa.PA
