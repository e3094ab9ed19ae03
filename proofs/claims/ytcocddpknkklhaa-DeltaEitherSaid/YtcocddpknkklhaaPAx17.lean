-- WRITTEN BY a program of this session (pp.sh)
import Derived.Test.YtcocddpknkklhaaPAx0
import Derived.Test.YtcocddpknkklhaaPAx14
import Derived.Test.YtcocddpknkklhaaPAx15
import Derived.Test.YtcocddpknkklhaaPAx16
namespace Go.Proofs.Ytcocddpknkklhaa.PA
open Go.RowKit Go.Proofs.YtcocddpknkklhaaW.PrintWords Go.Proofs.YtcocddpknkklhaaW.PrintLast Go.Proofs.YtcocddpknkklhaaW.PrintMore Go.Proofs.Ytcocddpknkklhaa.Plain
attribute [local go_sem] max2_int min2_int max_two min_two max_three min_three max_four min_four binOp_leq_s binOp_gtr_s binOp_geq_s lit_byte   -- for this text's walks alone
set_option linter.unusedVariables false
set_option linter.unusedSimpArgs false

/-! ### key_Parse: function 68 -/
mutual
def key_Parse.j0 : Nat → ByteArray → ByteArray → Int → Int → Int → Int → ByteArray → Int → Option (Int × Int × ByteArray × Int × Int)
 | 0, _, _, _, _, _, _, _, _ => none
 | k + 1, x0, x153000, x153001, x153002, x158000, x158001, x158002, x158003 => if x158000 = 112 then ((pack_Reader_Fixed.f k x153000 x153001 x153002).bind fun bt162 => (key_Parse.j1 k x0 bt162.2.1 bt162.2.2.1 bt162.2.2.2 x158000 x158001 x158002 (wrap64 (bt162.1)))) else (if x158000 = 100 then ((pack_Reader_Left.f x153000 x153001 x153002).bind fun bt166 => (if 0 ≤ (wrap64 ((x0.size : Int) - bt166.1)) then (if (wrap64 ((x0.size : Int) - bt166.1)) ≤ (x0.size : Int) then (key_Parse.j1 k x0 bt166.2.1 bt166.2.2.1 bt166.2.2.2 x158000 x158001 (x0.extract ((wrap64 ((x0.size : Int) - bt166.1)) : Int).toNat x0.size) x158003) else (none)) else (none))) else (if x158000 = 120 then ((pack_Reader_Left.f x153000 x153001 x153002).bind fun bt170 => (if 0 ≤ (wrap64 ((x0.size : Int) - bt170.1)) then (if (wrap64 ((x0.size : Int) - bt170.1)) ≤ (x0.size : Int) then (key_Parse.j1 k x0 bt170.2.1 bt170.2.2.1 bt170.2.2.2 x158000 x158001 (x0.extract ((wrap64 ((x0.size : Int) - bt170.1)) : Int).toNat x0.size) x158003) else (none)) else (none))) else (key_Parse.j1 k x0 x153000 x153001 x153002 x158000 x158001 x158002 x158003)))
def key_Parse.j1 : Nat → ByteArray → ByteArray → Int → Int → Int → Int → ByteArray → Int → Option (Int × Int × ByteArray × Int × Int)
 | 0, _, _, _, _, _, _, _, _ => none
 | k + 1, x0, x153000, x153001, x153002, x158000, x158001, x158002, x158003 => (key_Make.f k x158000 x158001 x158002 x158003).bind fun bt174 => ((pack_Reader_Err.f x153000 x153001 x153002).bind fun bt176 => (if bt176.1 = 0 then (if bt174.2 = 0 then (if bt174.1.toList = x0.toList then (some (x158000, x158001, x158002, x158003, 0)) else (some (0, 0, (⟨#[]⟩ : ByteArray), 0, 81))) else (some (0, 0, (⟨#[]⟩ : ByteArray), 0, 81))) else (some (0, 0, (⟨#[]⟩ : ByteArray), 0, 81))))
end
def key_Parse.f (k : Nat) (a0 : ByteArray) : Option (Int × Int × ByteArray × Int × Int) := (pack_Read.f a0).bind fun bt149 => ((pack_Reader_Byte.f bt149.1 bt149.2.1 bt149.2.2).bind fun bt153 => (if bt153.1 = 110 then (key_Parse.j0 k a0 bt153.2.1 bt153.2.2.1 bt153.2.2.2 bt153.1 0 (⟨#[]⟩ : ByteArray) 0) else ((pack_Reader_Fixed.f k bt153.2.1 bt153.2.2.1 bt153.2.2.2).bind fun bt158 => (key_Parse.j0 k a0 bt158.2.1 bt158.2.2.1 bt158.2.2.2 bt153.1 (wrap64 (bt158.1)) (⟨#[]⟩ : ByteArray) 0))))
theorem key_Parse.mono_l : ∀ k, (∀ y0 y1 y2 y3 y4 y5 y6 y7, LeO (key_Parse.j0 k y0 y1 y2 y3 y4 y5 y6 y7) (key_Parse.j0 (k + 1) y0 y1 y2 y3 y4 y5 y6 y7)) ∧ (∀ y0 y1 y2 y3 y4 y5 y6 y7, LeO (key_Parse.j1 k y0 y1 y2 y3 y4 y5 y6 y7) (key_Parse.j1 (k + 1) y0 y1 y2 y3 y4 y5 y6 y7))
 | 0 => ⟨fun _ _ _ _ _ _ _ _ r h => by simp [key_Parse.j0] at h, fun _ _ _ _ _ _ _ _ r h => by simp [key_Parse.j1] at h⟩
 | k + 1 => by
  obtain ⟨ih0, ih1⟩ := key_Parse.mono_l k
  refine ⟨?_, ?_⟩
  ·intro y0 y1 y2 y3 y4 y5 y6 y7
   unfold key_Parse.j0
   repeat' first
   | (with_reducible exact ih0 _ _ _ _ _ _ _ _)
   | (with_reducible exact ih1 _ _ _ _ _ _ _ _)
   | (with_reducible exact key_Make.mono _ _ _ _ _)
   | (with_reducible exact pack_Reader_Fixed.mono _ _ _ _)
   | (with_reducible exact LeO.refl _)
   | (with_reducible exact LeO.none _)
   | (with_reducible refine LeO.ite ?_ ?_)
   | (with_reducible refine LeO.bind ?_ (fun _ => ?_))
   | exact ih0 _ _ _ _ _ _ _ _
   | exact ih1 _ _ _ _ _ _ _ _
   | exact key_Make.mono _ _ _ _ _
   | exact pack_Reader_Fixed.mono _ _ _ _
   | exact LeO.none _
   | refine LeO.ite ?_ ?_
   | refine LeO.bind ?_ (fun _ => ?_)
  ·intro y0 y1 y2 y3 y4 y5 y6 y7
   unfold key_Parse.j1
   repeat' first
   | (with_reducible exact ih0 _ _ _ _ _ _ _ _)
   | (with_reducible exact ih1 _ _ _ _ _ _ _ _)
   | (with_reducible exact key_Make.mono _ _ _ _ _)
   | (with_reducible exact pack_Reader_Fixed.mono _ _ _ _)
   | (with_reducible exact LeO.refl _)
   | (with_reducible exact LeO.none _)
   | (with_reducible refine LeO.ite ?_ ?_)
   | (with_reducible refine LeO.bind ?_ (fun _ => ?_))
   | exact ih0 _ _ _ _ _ _ _ _
   | exact ih1 _ _ _ _ _ _ _ _
   | exact key_Make.mono _ _ _ _ _
   | exact pack_Reader_Fixed.mono _ _ _ _
   | exact LeO.none _
   | refine LeO.ite ?_ ?_
   | refine LeO.bind ?_ (fun _ => ?_)
theorem key_Parse.mono : ∀ a0 k, LeO (key_Parse.f k a0) (key_Parse.f (k + 1) a0) := by
 intro a0 k
 obtain ⟨ih0, ih1⟩ := key_Parse.mono_l k
 unfold key_Parse.f
 repeat' first
   | (with_reducible exact ih0 _ _ _ _ _ _ _ _)
   | (with_reducible exact ih1 _ _ _ _ _ _ _ _)
   | (with_reducible exact key_Make.mono _ _ _ _ _)
   | (with_reducible exact pack_Reader_Fixed.mono _ _ _ _)
   | (with_reducible exact LeO.refl _)
   | (with_reducible exact LeO.none _)
   | (with_reducible refine LeO.ite ?_ ?_)
   | (with_reducible refine LeO.bind ?_ (fun _ => ?_))
   | exact ih0 _ _ _ _ _ _ _ _
   | exact ih1 _ _ _ _ _ _ _ _
   | exact key_Make.mono _ _ _ _ _
   | exact pack_Reader_Fixed.mono _ _ _ _
   | exact LeO.none _
   | refine LeO.ite ?_ ?_
   | refine LeO.bind ?_ (fun _ => ?_)
set_option maxHeartbeats 8000000 in
set_option maxRecDepth 100000 in
theorem key_Parse.calls (k : Nat) (a0 : ByteArray) (r1 : Int) (r2 : Int) (r3 : ByteArray) (r4 : Int) (r5 : Int) (w : World) (h : key_Parse.f k a0 = some (r1, r2, r3, r4, r5)) :
  Calls Try.prog 68 #[.string a0] w fun e w' => e = .returned (.tuple #[.agg #[.int .u8 r1, .int .i64 r2, .string r3, .int .i64 r4], .int .i64 r5]) ∧ Below w.heap.size w w' := by
 have hu90 := Try.underlying90
 have HB := Aside0.mk (Below.refl w.heap.size w)
 have H : ((pack_Read.f a0).bind fun bt149 => ((pack_Reader_Byte.f bt149.1 bt149.2.1 bt149.2.2).bind fun bt153 => (if bt153.1 = 110 then (key_Parse.j0 k a0 bt153.2.1 bt153.2.2.1 bt153.2.2.2 bt153.1 0 (⟨#[]⟩ : ByteArray) 0) else ((pack_Reader_Fixed.f k bt153.2.1 bt153.2.2.1 bt153.2.2.2).bind fun bt158 => (key_Parse.j0 k a0 bt158.2.1 bt158.2.2.1 bt158.2.2.2 bt153.1 (wrap64 (bt158.1)) (⟨#[]⟩ : ByteArray) 0))))) = some (r1, r2, r3, r4, r5) := h
 clear h
 replace H := Option.bind_eq_some_iff.mp H
 obtain ⟨⟨t149, t150, t151⟩, A20, H⟩ := H
 replace H : ((pack_Reader_Byte.f t149 t150 t151).bind fun bt153 => (if bt153.1 = 110 then (key_Parse.j0 k a0 bt153.2.1 bt153.2.2.1 bt153.2.2.2 bt153.1 0 (⟨#[]⟩ : ByteArray) 0) else ((pack_Reader_Fixed.f k bt153.2.1 bt153.2.2.1 bt153.2.2.2).bind fun bt158 => (key_Parse.j0 k a0 bt158.2.1 bt158.2.2.1 bt158.2.2.2 bt153.1 (wrap64 (bt158.1)) (⟨#[]⟩ : ByteArray) 0)))) = some (r1, r2, r3, r4, r5) := H
 have A2 := Aside0.mk A20
 clear A20
 replace H := Option.bind_eq_some_iff.mp H
 obtain ⟨⟨t153, t154, t155, t156⟩, A30, H⟩ := H
 replace H : (if t153 = 110 then (key_Parse.j0 k a0 t154 t155 t156 t153 0 (⟨#[]⟩ : ByteArray) 0) else ((pack_Reader_Fixed.f k t154 t155 t156).bind fun bt158 => (key_Parse.j0 k a0 bt158.2.1 bt158.2.2.1 bt158.2.2.2 t153 (wrap64 (bt158.1)) (⟨#[]⟩ : ByteArray) 0))) = some (r1, r2, r3, r4, r5) := H
 have A3 := Aside0.mk A30
 clear A30
 have HC4 := Aside0.mk H
 clear H
 go_enter Try.func68, Try.ntmps68
 go_upto_if 15 with (first | ((with_reducible refine gate_dst (N := 2) rfl ?_); refine box_event ?hg (N := 2) ?hd (cs := #[.int .u8 0, .int .i64 0, .string (⟨#[]⟩ : ByteArray), .int .i64 0]) (t := 90) ?hr ?_; (case hd => rfl); (case hg => rfl); (case hr => first | (go_simp; done) | (go_simp; rfl)); intro gb148 hg w5 hbox hb; have n0_ := Aside0.mk (below_step (by repeat (first | (with_reducible first | exact HB.out | apply below_alloc | apply pw_below_drewN | apply below_drew1) | exact HB.out)) hb); have n1_ := Aside0.mk (hbox); have n2_ := Aside0.mk ((by rw [hg]; exact (below_size (by repeat (first | (with_reducible first | exact HB.out | apply below_alloc | apply pw_below_drewN | apply below_drew1) | exact HB.out))) : w.heap.size ≤ gb148)); have n3_ := Aside0.mk ((by rw [hg]; exact (below_size (by repeat (first | (with_reducible first | exact HB.out | apply below_alloc | apply pw_below_drewN | apply below_drew1) | exact HB.out))) : w.heap.size ≤ gb148)); clear HB; have HB := n0_; have BK148 := n1_; have GW148 := n2_; have GE148 := n3_; clear n0_ n1_ n2_ n3_; clear hb hbox hg) | ((with_reducible refine gate_callee (f := 77) rfl ?_); refine goesL_ (some 9) rfl rfl Try.func77 (by kernel_rfl) rfl #[.string a0] rfl (by (try simp only [List.map_toArray, List.map_cons, List.map_nil]); first | done | rfl | (simp only [List.length_drop, List.length_take]; rfl)) ?_; (with_reducible refine (pack_Read.calls a0 t149 t150 t151 w _ ?side1 A2.out).mono ?_); (case side1 => repeat (first | (with_reducible first | exact HB.out | apply below_alloc | apply pw_below_drewN | apply below_drew1 | refine below_set ?_ GE148.out) | exact HB.out)); rintro e w6 ⟨g152, rfl, hi, hb, hb2⟩; refine ⟨_, rfl, ?_⟩; have n0_ := Aside0.mk (blk_below (g := gb148) (o := .cells #[.int .u8 0, .int .i64 0, .string (⟨#[]⟩ : ByteArray), .int .i64 0] 90 (0, 0)) (by (with_reducible repeat (first | refine blk_drewN ?_ _ | refine blk_drew ?_ | refine blk_alloc ?_ _)); exact BK148.out) hb2); have n1_ := Aside0.mk (hb); have n2_ := Aside0.mk (hi); have n3_ := Aside0.mk (IsS133.ne_blk hi (blk_below (g := gb148) (o := .cells #[.int .u8 0, .int .i64 0, .string (⟨#[]⟩ : ByteArray), .int .i64 0] 90 (0, 0)) (by (with_reducible repeat (first | refine blk_drewN ?_ _ | refine blk_drew ?_ | refine blk_alloc ?_ _)); exact BK148.out) hb2) (by decide)); have n4_ := Aside0.mk (Ne.symm (IsS133.ne_blk hi (blk_below (g := gb148) (o := .cells #[.int .u8 0, .int .i64 0, .string (⟨#[]⟩ : ByteArray), .int .i64 0] 90 (0, 0)) (by (with_reducible repeat (first | refine blk_drewN ?_ _ | refine blk_drew ?_ | refine blk_alloc ?_ _)); exact BK148.out) hb2) (by decide))); clear BK148; clear HB; have BK148 := n0_; have HB := n1_; have HI152 := n2_; have NB152_148 := n3_; have NB148_152 := n4_; clear n0_ n1_ n2_ n3_ n4_; (try clear hb); (try clear hb2); (try clear hk); (try clear hi)) | ((with_reducible refine gate_callee (f := 78) rfl ?_); refine goesL_ (some 11) rfl rfl Try.func78 (by kernel_rfl) rfl #[.pointer (some ⟨g152, 0, none⟩)] rfl (by (try simp only [List.map_toArray, List.map_cons, List.map_nil]); first | done | rfl | (simp only [List.length_drop, List.length_take]; rfl)) ?_; (with_reducible refine (pack_Reader_Byte.calls g152 t149 t150 t151 t153 t154 t155 t156 w _ ?side1 ?side2 A3.out).mono ?_); (case side1 => repeat (first | (with_reducible first | exact HI152.out | apply IsS133.alloc | apply IsS133.drewN | apply IsS133.drew | apply IsS133.set_0 | apply IsS133.set_1 | apply IsS133.set_2 | refine IsS133.far ?_ NB152_148.out _) | exact HI152.out)); (case side2 => repeat (first | (with_reducible first | exact HB.out | apply below_alloc | apply pw_below_drewN | apply below_drew1 | refine below_set ?_ (IsS133.ge HI152.out) | refine below_set ?_ GE148.out) | exact HB.out)); rintro e w7 ⟨rfl, hi, hb, hk⟩; refine ⟨_, rfl, ?_⟩; have n0_ := Aside0.mk (KeepBut.blk hk (g' := gb148) (o := .cells #[.int .u8 0, .int .i64 0, .string (⟨#[]⟩ : ByteArray), .int .i64 0] 90 (0, 0)) (by (with_reducible repeat (first | refine blk_drewN ?_ _ | refine blk_drew ?_ | refine blk_alloc ?_ _)); exact BK148.out) NB148_152.out (by simp)); have n1_ := Aside0.mk (hb); have n2_ := Aside0.mk (hi); clear BK148; clear HB; clear HI152; have BK148 := n0_; have HB := n1_; have HI152 := n2_; clear n0_ n1_ n2_; (try clear hb); (try clear hb2); (try clear hk); (try clear hi)) | ((with_reducible refine gate_dst (N := 5) rfl ?_); refine box_event ?hg (N := 5) ?hd (cs := #[.int .u8 0, .int .i64 0, .string (⟨#[]⟩ : ByteArray), .int .i64 0]) (t := 90) ?hr ?_; (case hd => rfl); (case hg => rfl); (case hr => first | (go_simp; done) | (go_simp; rfl)); intro gb157 hg w8 hbox hb; have n0_ := Aside0.mk (blk_below (g := gb148) (o := .cells #[.int .u8 0, .int .i64 0, .string (⟨#[]⟩ : ByteArray), .int .i64 0] 90 (0, 0)) (by (with_reducible repeat (first | refine blk_drewN ?_ _ | refine blk_drew ?_ | refine blk_alloc ?_ _)); exact BK148.out) hb); have n1_ := Aside0.mk (IsS133.below (by repeat (first | (with_reducible first | exact HI152.out | apply IsS133.alloc | apply IsS133.drewN | apply IsS133.drew | apply IsS133.set_0 | apply IsS133.set_1 | apply IsS133.set_2 | refine IsS133.far ?_ NB152_148.out _) | exact HI152.out)) hb); have n2_ := Aside0.mk (below_step (by repeat (first | (with_reducible first | exact HB.out | apply below_alloc | apply pw_below_drewN | apply below_drew1 | refine below_set ?_ (IsS133.ge HI152.out) | refine below_set ?_ GE148.out) | exact HB.out)) hb); have n3_ := Aside0.mk (hbox); have n4_ := Aside0.mk ((by rw [hg]; exact (below_size (by repeat (first | (with_reducible first | exact HB.out | apply below_alloc | apply pw_below_drewN | apply below_drew1 | refine below_set ?_ (IsS133.ge HI152.out) | refine below_set ?_ GE148.out) | exact HB.out))) : w.heap.size ≤ gb157)); have n5_ := Aside0.mk ((by rw [hg]; exact (below_size (by repeat (first | (with_reducible first | exact HB.out | apply below_alloc | apply pw_below_drewN | apply below_drew1 | refine below_set ?_ (IsS133.ge HI152.out) | refine below_set ?_ GE148.out) | exact HB.out))) : w.heap.size ≤ gb157)); have n6_ := Aside0.mk ((by rw [hg]; exact Nat.ne_of_lt (blk_lt (g := gb148) (o := .cells #[.int .u8 0, .int .i64 0, .string (⟨#[]⟩ : ByteArray), .int .i64 0] 90 (0, 0)) (by (with_reducible repeat (first | refine blk_drewN ?_ _ | refine blk_drew ?_ | refine blk_alloc ?_ _)); exact BK148.out)) : gb148 ≠ gb157)); have n7_ := Aside0.mk ((by rw [hg]; exact Nat.ne_of_gt (blk_lt (g := gb148) (o := .cells #[.int .u8 0, .int .i64 0, .string (⟨#[]⟩ : ByteArray), .int .i64 0] 90 (0, 0)) (by (with_reducible repeat (first | refine blk_drewN ?_ _ | refine blk_drew ?_ | refine blk_alloc ?_ _)); exact BK148.out)) : gb157 ≠ gb148)); have n8_ := Aside0.mk ((by rw [hg]; exact Nat.ne_of_lt (IsS133.lt (show IsS133 w _ g152 t154 t155 t156 from by repeat (first | (with_reducible first | exact HI152.out | apply IsS133.alloc | apply IsS133.drewN | apply IsS133.drew | apply IsS133.set_0 | apply IsS133.set_1 | apply IsS133.set_2 | refine IsS133.far ?_ NB152_148.out _) | exact HI152.out))) : g152 ≠ gb157)); have n9_ := Aside0.mk ((by rw [hg]; exact Nat.ne_of_gt (IsS133.lt (show IsS133 w _ g152 t154 t155 t156 from by repeat (first | (with_reducible first | exact HI152.out | apply IsS133.alloc | apply IsS133.drewN | apply IsS133.drew | apply IsS133.set_0 | apply IsS133.set_1 | apply IsS133.set_2 | refine IsS133.far ?_ NB152_148.out _) | exact HI152.out))) : gb157 ≠ g152)); clear BK148; clear HI152; clear HB; have BK148 := n0_; have HI152 := n1_; have HB := n2_; have BK157 := n3_; have GW157 := n4_; have GE157 := n5_; have NB148_157 := n6_; have NB157_148 := n7_; have NB152_157 := n8_; have NB157_152 := n9_; clear n0_ n1_ n2_ n3_ n4_ n5_ n6_ n7_ n8_ n9_; clear hb hbox hg; have hnb9 := NB157_148.out; have hnc9 := NB148_157.out; have hnb10 := NB157_152.out; have hnc10 := NB152_157.out; have hcz11_0 : w8.cell? ⟨gb157, 0, none⟩ = some (.int .u8 0) := (blk_cell BK157.out 0).trans rfl; have hcz11_1 : w8.cell? ⟨gb157, 1, none⟩ = some (.int .i64 0) := (blk_cell BK157.out 1).trans rfl; have hcz11_2 : w8.cell? ⟨gb157, 2, none⟩ = some (.string (⟨#[]⟩ : ByteArray)) := (blk_cell BK157.out 2).trans rfl; have hcz11_3 : w8.cell? ⟨gb157, 3, none⟩ = some (.int .i64 0) := (blk_cell BK157.out 3).trans rfl; have hfz11_0 := blk_frozen BK157.out 0; have hfz11_1 := blk_frozen BK157.out 1; have hfz11_2 := blk_frozen BK157.out 2; have hfz11_3 := blk_frozen BK157.out 3))
 (try simp only [Act.put, List.setIfInBounds_toArray, List.set_cons_zero, List.set_cons_succ])
 go_cut [] (fun wc => ∃ (kq : Nat) (x153000_3 : ByteArray) (x153001_3 : Int) (x153002_3 : Int) (x158001_3 : Int), Aside0 (key_Parse.j0 kq a0 x153000_3 x153001_3 x153002_3 t153 x158001_3 (⟨#[]⟩ : ByteArray) 0 = some (r1, r2, r3, r4, r5)) ∧ Aside0 (kq ≤ k) ∧ Aside0 (wc.heap[gb148]? = some (.cells #[.int .u8 0, .int .i64 0, .string (⟨#[]⟩ : ByteArray), .int .i64 0] 90 (0, 0))) ∧ Aside0 (wc.heap[gb157]? = some (.cells #[.int .u8 t153, .int .i64 x158001_3, .string (⟨#[]⟩ : ByteArray), .int .i64 0] 90 (0, 0))) ∧ Aside0 (IsS133 w wc g152 x153000_3 x153001_3 x153002_3) ∧ Aside0 (Below w.heap.size w wc))
 case first =>
  have H := HC4.out
  clear HC4
  by_cases c12 : t153 = 110
  ·rw [if_pos c12] at H
   have c12b0 : (t153 == 110) = true := beq_iff_eq.mpr c12
   have c12b1 : (t153 != 110) = false := bne_eq_false_iff_eq.mpr c12
   clear c12
   (first | rw [c12b0] | (simp only [i64_w, i32_w]; rw [c12b0]) | skip)
   have H' := Aside0.mk H
   clear H
   go_wp2
   go_meet
   case rel => exact ⟨_, (t154), (t155), (t156), (0), H', ⟨by first | omega | exact Nat.le_refl _⟩, ⟨by (with_reducible repeat (first | refine blk_drewN ?_ _ | refine blk_drew ?_ | refine blk_alloc ?_ _)); refine blk_far ?_ NB148_157.out _; (with_reducible repeat (first | refine blk_drewN ?_ _ | refine blk_drew ?_ | refine blk_alloc ?_ _)); refine blk_far ?_ NB148_157.out _; (with_reducible repeat (first | refine blk_drewN ?_ _ | refine blk_drew ?_ | refine blk_alloc ?_ _)); refine blk_far ?_ NB148_157.out _; (with_reducible repeat (first | refine blk_drewN ?_ _ | refine blk_drew ?_ | refine blk_alloc ?_ _)); refine blk_far ?_ NB148_157.out _; (with_reducible repeat (first | refine blk_drewN ?_ _ | refine blk_drew ?_ | refine blk_alloc ?_ _)); exact BK148.out⟩, ⟨by (with_reducible repeat (first | refine blk_drewN ?_ _ | refine blk_drew ?_ | refine blk_alloc ?_ _)); refine blk_put (cs := #[.int .u8 t153, .int .i64 0, .string (⟨#[]⟩ : ByteArray), .int .i64 0]) ?_ 3 _ rfl; (with_reducible repeat (first | refine blk_drewN ?_ _ | refine blk_drew ?_ | refine blk_alloc ?_ _)); refine blk_put (cs := #[.int .u8 t153, .int .i64 0, .string (⟨#[]⟩ : ByteArray), .int .i64 0]) ?_ 2 _ rfl; (with_reducible repeat (first | refine blk_drewN ?_ _ | refine blk_drew ?_ | refine blk_alloc ?_ _)); refine blk_put (cs := #[.int .u8 t153, .int .i64 0, .string (⟨#[]⟩ : ByteArray), .int .i64 0]) ?_ 1 _ rfl; (with_reducible repeat (first | refine blk_drewN ?_ _ | refine blk_drew ?_ | refine blk_alloc ?_ _)); refine blk_put (cs := #[.int .u8 0, .int .i64 0, .string (⟨#[]⟩ : ByteArray), .int .i64 0]) ?_ 0 _ rfl; (with_reducible repeat (first | refine blk_drewN ?_ _ | refine blk_drew ?_ | refine blk_alloc ?_ _)); exact BK157.out⟩, ⟨by repeat (first | (with_reducible first | exact HI152.out | apply IsS133.alloc | apply IsS133.drewN | apply IsS133.drew | apply IsS133.set_0 | apply IsS133.set_1 | apply IsS133.set_2 | refine IsS133.far ?_ NB152_148.out _ | refine IsS133.far ?_ NB152_157.out _) | exact HI152.out)⟩, ⟨by repeat (first | (with_reducible first | exact HB.out | apply below_alloc | apply pw_below_drewN | apply below_drew1 | refine below_set ?_ (IsS133.ge HI152.out) | refine below_set ?_ GE148.out | refine below_set ?_ GE157.out) | exact HB.out)⟩⟩
  ·rw [if_neg c12] at H
   have c12b0 : (t153 == 110) = false := beq_eq_false_iff_ne.mpr c12
   have c12b1 : (t153 != 110) = true := bne_iff_ne.mpr c12
   (first | rw [c12b0] | (simp only [i64_w, i32_w]; rw [c12b0]) | skip)
   replace H := Option.bind_eq_some_iff.mp H
   obtain ⟨⟨t158, t159, t160, t161⟩, A130, H⟩ := H
   replace H : (key_Parse.j0 k a0 t159 t160 t161 t153 (wrap64 (t158)) (⟨#[]⟩ : ByteArray) 0) = some (r1, r2, r3, r4, r5) := H
   have A13 := Aside0.mk A130
   clear A130
   have H' := Aside0.mk H
   clear H
   go_wp2_with (first | ((with_reducible refine gate_callee (f := 79) rfl ?_); refine goesL_ (some 17) rfl rfl Try.func79 (by kernel_rfl) rfl #[.pointer (some ⟨g152, 0, none⟩)] rfl (by (try simp only [List.map_toArray, List.map_cons, List.map_nil]); first | done | rfl | (simp only [List.length_drop, List.length_take]; rfl)) ?_; (with_reducible refine (pack_Reader_Fixed.calls k g152 t154 t155 t156 t158 t159 t160 t161 w _ ?side1 ?side2 A13.out).mono ?_); (case side1 => repeat (first | (with_reducible first | exact HI152.out | apply IsS133.alloc | apply IsS133.drewN | apply IsS133.drew | apply IsS133.set_0 | apply IsS133.set_1 | apply IsS133.set_2 | refine IsS133.far ?_ NB152_148.out _ | refine IsS133.far ?_ NB152_157.out _) | exact HI152.out)); (case side2 => repeat (first | (with_reducible first | exact HB.out | apply below_alloc | apply pw_below_drewN | apply below_drew1 | refine below_set ?_ (IsS133.ge HI152.out) | refine below_set ?_ GE148.out | refine below_set ?_ GE157.out) | exact HB.out)); rintro e w14 ⟨rfl, hi, hb, hk⟩; refine ⟨_, rfl, ?_⟩; have n0_ := Aside0.mk (KeepBut.blk hk (g' := gb148) (o := .cells #[.int .u8 0, .int .i64 0, .string (⟨#[]⟩ : ByteArray), .int .i64 0] 90 (0, 0)) (by (with_reducible repeat (first | refine blk_drewN ?_ _ | refine blk_drew ?_ | refine blk_alloc ?_ _)); refine blk_far ?_ NB148_157.out _; (with_reducible repeat (first | refine blk_drewN ?_ _ | refine blk_drew ?_ | refine blk_alloc ?_ _)); refine blk_far ?_ NB148_157.out _; (with_reducible repeat (first | refine blk_drewN ?_ _ | refine blk_drew ?_ | refine blk_alloc ?_ _)); refine blk_far ?_ NB148_157.out _; (with_reducible repeat (first | refine blk_drewN ?_ _ | refine blk_drew ?_ | refine blk_alloc ?_ _)); refine blk_far ?_ NB148_157.out _; (with_reducible repeat (first | refine blk_drewN ?_ _ | refine blk_drew ?_ | refine blk_alloc ?_ _)); exact BK148.out) NB148_152.out (by simp)); have n1_ := Aside0.mk (KeepBut.blk hk (g' := gb157) (o := .cells #[.int .u8 t153, .int .i64 0, .string (⟨#[]⟩ : ByteArray), .int .i64 0] 90 (0, 0)) (by (with_reducible repeat (first | refine blk_drewN ?_ _ | refine blk_drew ?_ | refine blk_alloc ?_ _)); refine blk_put (cs := #[.int .u8 t153, .int .i64 0, .string (⟨#[]⟩ : ByteArray), .int .i64 0]) ?_ 3 _ rfl; (with_reducible repeat (first | refine blk_drewN ?_ _ | refine blk_drew ?_ | refine blk_alloc ?_ _)); refine blk_put (cs := #[.int .u8 t153, .int .i64 0, .string (⟨#[]⟩ : ByteArray), .int .i64 0]) ?_ 2 _ rfl; (with_reducible repeat (first | refine blk_drewN ?_ _ | refine blk_drew ?_ | refine blk_alloc ?_ _)); refine blk_put (cs := #[.int .u8 t153, .int .i64 0, .string (⟨#[]⟩ : ByteArray), .int .i64 0]) ?_ 1 _ rfl; (with_reducible repeat (first | refine blk_drewN ?_ _ | refine blk_drew ?_ | refine blk_alloc ?_ _)); refine blk_put (cs := #[.int .u8 0, .int .i64 0, .string (⟨#[]⟩ : ByteArray), .int .i64 0]) ?_ 0 _ rfl; (with_reducible repeat (first | refine blk_drewN ?_ _ | refine blk_drew ?_ | refine blk_alloc ?_ _)); exact BK157.out) NB157_152.out (by simp)); have n2_ := Aside0.mk (hb); have n3_ := Aside0.mk (hi); clear BK148; clear BK157; clear HB; clear HI152; have BK148 := n0_; have BK157 := n1_; have HB := n2_; have HI152 := n3_; clear n0_ n1_ n2_ n3_; (try clear hb); (try clear hb2); (try clear hk); (try clear hi); have hnb15 := NB157_148.out; have hnc15 := NB148_157.out; have hnb16 := NB157_152.out; have hnc16 := NB152_157.out; have hcz17_0 : w14.cell? ⟨gb157, 0, none⟩ = some (.int .u8 t153) := (blk_cell BK157.out 0).trans rfl; have hcz17_1 : w14.cell? ⟨gb157, 1, none⟩ = some (.int .i64 0) := (blk_cell BK157.out 1).trans rfl; have hcz17_2 : w14.cell? ⟨gb157, 2, none⟩ = some (.string (⟨#[]⟩ : ByteArray)) := (blk_cell BK157.out 2).trans rfl; have hcz17_3 : w14.cell? ⟨gb157, 3, none⟩ = some (.int .i64 0) := (blk_cell BK157.out 3).trans rfl; have hfz17_0 := blk_frozen BK157.out 0; have hfz17_1 := blk_frozen BK157.out 1; have hfz17_2 := blk_frozen BK157.out 2; have hfz17_3 := blk_frozen BK157.out 3))
   go_meet
   case rel => exact ⟨_, (t159), (t160), (t161), (wrap64 (t158)), H', ⟨by first | omega | exact Nat.le_refl _⟩, ⟨by (with_reducible repeat (first | refine blk_drewN ?_ _ | refine blk_drew ?_ | refine blk_alloc ?_ _)); refine blk_far ?_ NB148_157.out _; (with_reducible repeat (first | refine blk_drewN ?_ _ | refine blk_drew ?_ | refine blk_alloc ?_ _)); exact BK148.out⟩, ⟨by (with_reducible repeat (first | refine blk_drewN ?_ _ | refine blk_drew ?_ | refine blk_alloc ?_ _)); refine blk_put (cs := #[.int .u8 t153, .int .i64 0, .string (⟨#[]⟩ : ByteArray), .int .i64 0]) ?_ 1 _ rfl; (with_reducible repeat (first | refine blk_drewN ?_ _ | refine blk_drew ?_ | refine blk_alloc ?_ _)); exact BK157.out⟩, ⟨by repeat (first | (with_reducible first | exact HI152.out | apply IsS133.alloc | apply IsS133.drewN | apply IsS133.drew | apply IsS133.set_0 | apply IsS133.set_1 | apply IsS133.set_2 | refine IsS133.far ?_ NB152_148.out _ | refine IsS133.far ?_ NB152_157.out _) | exact HI152.out)⟩, ⟨by repeat (first | (with_reducible first | exact HB.out | apply below_alloc | apply pw_below_drewN | apply below_drew1 | refine below_set ?_ (IsS133.ge HI152.out) | refine below_set ?_ GE148.out | refine below_set ?_ GE157.out) | exact HB.out)⟩⟩
 case rest =>
  clear HC4
  try clear c1
  try clear p2
  try clear c6
  try clear p6
  try clear c7
  try clear c9
  try clear c10
  try clear c12
  try clear c12b0
  try clear c12b1
  try clear c15
  try clear c16
  try clear hcz11_0
  try clear hcz11_1
  try clear hcz11_2
  try clear hcz11_3
  try clear hcz17_0
  try clear hcz17_1
  try clear hcz17_2
  try clear hcz17_3
  try clear hfz11_0
  try clear hfz11_1
  try clear hfz11_2
  try clear hfz11_3
  try clear hfz17_0
  try clear hfz17_1
  try clear hfz17_2
  try clear hfz17_3
  obtain ⟨kq, x153000_3, x153001_3, x153002_3, x158001_3, HA, HJ3, BK148, BK157, HI152, HB⟩ := hcut
  cases kq with
  | zero => exact absurd HA.out (by simp [key_Parse.j0])
  | succ kj3 =>
   have H := HA.out
   clear HA
   simp only [key_Parse.j0] at H
   have HC18 := Aside0.mk H
   clear H
   have hnb19 := NB157_148.out
   have hnc19 := NB148_157.out
   have hnb20 := NB157_152.out
   have hnc20 := NB152_157.out
   have hcz21_0 : wc.cell? ⟨gb157, 0, none⟩ = some (.int .u8 t153) := (blk_cell BK157.out 0).trans rfl
   have hcz21_1 : wc.cell? ⟨gb157, 1, none⟩ = some (.int .i64 x158001_3) := (blk_cell BK157.out 1).trans rfl
   have hcz21_2 : wc.cell? ⟨gb157, 2, none⟩ = some (.string (⟨#[]⟩ : ByteArray)) := (blk_cell BK157.out 2).trans rfl
   have hcz21_3 : wc.cell? ⟨gb157, 3, none⟩ = some (.int .i64 0) := (blk_cell BK157.out 3).trans rfl
   have hfz21_0 := blk_frozen BK157.out 0
   have hfz21_1 := blk_frozen BK157.out 1
   have hfz21_2 := blk_frozen BK157.out 2
   have hfz21_3 := blk_frozen BK157.out 3
   go_upto_block 0 with (fail)
   go_cut [] (fun wc => ∃ (kq : Nat) (x153000_17 : ByteArray) (x153001_17 : Int) (x153002_17 : Int) (x158002_17 : ByteArray) (x158003_17 : Int), Aside0 (key_Parse.j1 kq a0 x153000_17 x153001_17 x153002_17 t153 x158001_3 x158002_17 x158003_17 = some (r1, r2, r3, r4, r5)) ∧ Aside0 (kq ≤ kj3) ∧ Aside0 (wc.heap[gb148]? = some (.cells #[.int .u8 0, .int .i64 0, .string (⟨#[]⟩ : ByteArray), .int .i64 0] 90 (0, 0))) ∧ Aside0 (wc.heap[gb157]? = some (.cells #[.int .u8 t153, .int .i64 x158001_3, .string x158002_17, .int .i64 x158003_17] 90 (0, 0))) ∧ Aside0 (IsS133 w wc g152 x153000_17 x153001_17 x153002_17) ∧ Aside0 (Below w.heap.size w wc))
   case first =>
    have H := HC18.out
    clear HC18
    by_cases c22 : t153 = 112
    ·rw [if_pos c22] at H
     have c22b0 : (t153 == 112) = true := beq_iff_eq.mpr c22
     have c22b1 : (t153 != 112) = false := bne_eq_false_iff_eq.mpr c22
     clear c22
     (first | rw [c22b0] | (simp only [i64_w, i32_w]; rw [c22b0]) | skip)
     replace H := Option.bind_eq_some_iff.mp H
     obtain ⟨⟨t162, t163, t164, t165⟩, A230, H⟩ := H
     replace H : (key_Parse.j1 kj3 a0 t163 t164 t165 t153 x158001_3 (⟨#[]⟩ : ByteArray) (wrap64 (t162))) = some (r1, r2, r3, r4, r5) := H
     have A23 := Aside0.mk A230
     clear A230
     have H' := Aside0.mk H
     clear H
     go_wp2_with (first | ((with_reducible refine gate_callee (f := 79) rfl ?_); refine goesL_ (some 25) rfl rfl Try.func79 (by kernel_rfl) rfl #[.pointer (some ⟨g152, 0, none⟩)] rfl (by (try simp only [List.map_toArray, List.map_cons, List.map_nil]); first | done | rfl | (simp only [List.length_drop, List.length_take]; rfl)) ?_; (with_reducible refine (pack_Reader_Fixed.calls kj3 g152 x153000_3 x153001_3 x153002_3 t162 t163 t164 t165 w _ ?side1 ?side2 A23.out).mono ?_); (case side1 => repeat (first | (with_reducible first | exact HI152.out | apply IsS133.alloc | apply IsS133.drewN | apply IsS133.drew | apply IsS133.set_0 | apply IsS133.set_1 | apply IsS133.set_2 | refine IsS133.far ?_ NB152_148.out _ | refine IsS133.far ?_ NB152_157.out _) | exact HI152.out)); (case side2 => repeat (first | (with_reducible first | exact HB.out | apply below_alloc | apply pw_below_drewN | apply below_drew1 | refine below_set ?_ (IsS133.ge HI152.out) | refine below_set ?_ GE148.out | refine below_set ?_ GE157.out) | exact HB.out)); rintro e w24 ⟨rfl, hi, hb, hk⟩; refine ⟨_, rfl, ?_⟩; have n0_ := Aside0.mk (KeepBut.blk hk (g' := gb148) (o := .cells #[.int .u8 0, .int .i64 0, .string (⟨#[]⟩ : ByteArray), .int .i64 0] 90 (0, 0)) (by (with_reducible repeat (first | refine blk_drewN ?_ _ | refine blk_drew ?_ | refine blk_alloc ?_ _)); exact BK148.out) NB148_152.out (by simp)); have n1_ := Aside0.mk (KeepBut.blk hk (g' := gb157) (o := .cells #[.int .u8 t153, .int .i64 x158001_3, .string (⟨#[]⟩ : ByteArray), .int .i64 0] 90 (0, 0)) (by (with_reducible repeat (first | refine blk_drewN ?_ _ | refine blk_drew ?_ | refine blk_alloc ?_ _)); exact BK157.out) NB157_152.out (by simp)); have n2_ := Aside0.mk (hb); have n3_ := Aside0.mk (hi); clear BK148; clear BK157; clear HB; clear HI152; have BK148 := n0_; have BK157 := n1_; have HB := n2_; have HI152 := n3_; clear n0_ n1_ n2_ n3_; (try clear hb); (try clear hb2); (try clear hk); (try clear hi); have hnb25 := NB157_148.out; have hnc25 := NB148_157.out; have hnb26 := NB157_152.out; have hnc26 := NB152_157.out; have hcz27_0 : w24.cell? ⟨gb157, 0, none⟩ = some (.int .u8 t153) := (blk_cell BK157.out 0).trans rfl; have hcz27_1 : w24.cell? ⟨gb157, 1, none⟩ = some (.int .i64 x158001_3) := (blk_cell BK157.out 1).trans rfl; have hcz27_2 : w24.cell? ⟨gb157, 2, none⟩ = some (.string (⟨#[]⟩ : ByteArray)) := (blk_cell BK157.out 2).trans rfl; have hcz27_3 : w24.cell? ⟨gb157, 3, none⟩ = some (.int .i64 0) := (blk_cell BK157.out 3).trans rfl; have hfz27_0 := blk_frozen BK157.out 0; have hfz27_1 := blk_frozen BK157.out 1; have hfz27_2 := blk_frozen BK157.out 2; have hfz27_3 := blk_frozen BK157.out 3))
     go_meet
     case rel => exact ⟨_, (t163), (t164), (t165), ((⟨#[]⟩ : ByteArray)), (wrap64 (t162)), H', ⟨by have := HJ3.out; first | omega | exact Nat.le_refl _⟩, ⟨by (with_reducible repeat (first | refine blk_drewN ?_ _ | refine blk_drew ?_ | refine blk_alloc ?_ _)); refine blk_far ?_ NB148_157.out _; (with_reducible repeat (first | refine blk_drewN ?_ _ | refine blk_drew ?_ | refine blk_alloc ?_ _)); exact BK148.out⟩, ⟨by (with_reducible repeat (first | refine blk_drewN ?_ _ | refine blk_drew ?_ | refine blk_alloc ?_ _)); refine blk_put (cs := #[.int .u8 t153, .int .i64 x158001_3, .string (⟨#[]⟩ : ByteArray), .int .i64 0]) ?_ 3 _ rfl; (with_reducible repeat (first | refine blk_drewN ?_ _ | refine blk_drew ?_ | refine blk_alloc ?_ _)); exact BK157.out⟩, ⟨by repeat (first | (with_reducible first | exact HI152.out | apply IsS133.alloc | apply IsS133.drewN | apply IsS133.drew | apply IsS133.set_0 | apply IsS133.set_1 | apply IsS133.set_2 | refine IsS133.far ?_ NB152_148.out _ | refine IsS133.far ?_ NB152_157.out _) | exact HI152.out)⟩, ⟨by repeat (first | (with_reducible first | exact HB.out | apply below_alloc | apply pw_below_drewN | apply below_drew1 | refine below_set ?_ (IsS133.ge HI152.out) | refine below_set ?_ GE148.out | refine below_set ?_ GE157.out) | exact HB.out)⟩⟩
    ·rw [if_neg c22] at H
     have c22b0 : (t153 == 112) = false := beq_eq_false_iff_ne.mpr c22
     have c22b1 : (t153 != 112) = true := bne_iff_ne.mpr c22
     (first | rw [c22b0] | (simp only [i64_w, i32_w]; rw [c22b0]) | skip)
     by_cases c28 : t153 = 100
     ·rw [if_pos c28] at H
      have c28b0 : (t153 == 100) = true := beq_iff_eq.mpr c28
      have c28b1 : (t153 != 100) = false := bne_eq_false_iff_eq.mpr c28
      clear c28
      replace H := Option.bind_eq_some_iff.mp H
      obtain ⟨⟨t166, t167, t168, t169⟩, A290, H⟩ := H
      replace H : (if 0 ≤ (wrap64 ((a0.size : Int) - t166)) then (if (wrap64 ((a0.size : Int) - t166)) ≤ (a0.size : Int) then (key_Parse.j1 kj3 a0 t167 t168 t169 t153 x158001_3 (a0.extract ((wrap64 ((a0.size : Int) - t166)) : Int).toNat a0.size) 0) else (none)) else (none)) = some (r1, r2, r3, r4, r5) := H
      have A29 := Aside0.mk A290
      clear A290
      obtain ⟨ji30, hji30⟩ : ∃ j_ : Int, (wrap64 ((a0.size : Int) - t166)) = j_ := ⟨_, rfl⟩
      replace H : (if 0 ≤ (ji30) then (if (ji30) ≤ (a0.size : Int) then (key_Parse.j1 kj3 a0 t167 t168 t169 t153 x158001_3 (a0.extract ((ji30) : Int).toNat a0.size) 0) else (none)) else (none)) = some (r1, r2, r3, r4, r5) := by first | (rw [hji30] at H; exact H) | (simp only [hji30] at H ⊢; exact H)
      (try rw [hji30] at A29)
      have hji30w : (IntKind.i64.wrap ((a0.size : Int) - t166)) = ji30 := (i64_w _).trans hji30
      by_cases c31 : 0 ≤ (ji30)
      ·rw [if_pos c31] at H
       have c31b0 := eq_true c31
       have c31b1 : decide (0 ≤ (ji30)) = true := decide_eq_true c31
       clear c31
       by_cases c32 : (ji30) ≤ (a0.size : Int)
       ·rw [if_pos c32] at H
        have c32b0 := eq_true c32
        have c32b1 : decide ((ji30) ≤ (a0.size : Int)) = true := decide_eq_true c32
        clear c32
        have H' := Aside0.mk H
        clear H
        go_wp2_with (first | ((with_reducible refine gate_callee (f := 80) rfl ?_); refine goesL_ (some 35) rfl rfl Try.func80 (by kernel_rfl) rfl #[.pointer (some ⟨g152, 0, none⟩)] rfl (by (try simp only [List.map_toArray, List.map_cons, List.map_nil]); first | done | rfl | (simp only [List.length_drop, List.length_take]; rfl)) ?_; (with_reducible refine (pack_Reader_Left.calls g152 x153000_3 x153001_3 x153002_3 t166 t167 t168 t169 w _ ?side1 ?side2 A29.out).mono ?_); (case side1 => repeat (first | (with_reducible first | exact HI152.out | apply IsS133.alloc | apply IsS133.drewN | apply IsS133.drew | apply IsS133.set_0 | apply IsS133.set_1 | apply IsS133.set_2 | refine IsS133.far ?_ NB152_148.out _ | refine IsS133.far ?_ NB152_157.out _) | exact HI152.out)); (case side2 => repeat (first | (with_reducible first | exact HB.out | apply below_alloc | apply pw_below_drewN | apply below_drew1 | refine below_set ?_ (IsS133.ge HI152.out) | refine below_set ?_ GE148.out | refine below_set ?_ GE157.out) | exact HB.out)); rintro e w33 ⟨rfl, hi, hb, hk⟩; refine ⟨_, rfl, ?_⟩; have n0_ := Aside0.mk (KeepBut.blk hk (g' := gb148) (o := .cells #[.int .u8 0, .int .i64 0, .string (⟨#[]⟩ : ByteArray), .int .i64 0] 90 (0, 0)) (by (with_reducible repeat (first | refine blk_drewN ?_ _ | refine blk_drew ?_ | refine blk_alloc ?_ _)); exact BK148.out) NB148_152.out (by simp)); have n1_ := Aside0.mk (KeepBut.blk hk (g' := gb157) (o := .cells #[.int .u8 t153, .int .i64 x158001_3, .string (⟨#[]⟩ : ByteArray), .int .i64 0] 90 (0, 0)) (by (with_reducible repeat (first | refine blk_drewN ?_ _ | refine blk_drew ?_ | refine blk_alloc ?_ _)); exact BK157.out) NB157_152.out (by simp)); have n2_ := Aside0.mk (hb); have n3_ := Aside0.mk (hi); clear BK148; clear BK157; clear HB; clear HI152; have BK148 := n0_; have BK157 := n1_; have HB := n2_; have HI152 := n3_; clear n0_ n1_ n2_ n3_; (try clear hb); (try clear hb2); (try clear hk); (try clear hi); have hnb34 := NB157_148.out; have hnc34 := NB148_157.out; have hnb35 := NB157_152.out; have hnc35 := NB152_157.out; have hcz36_0 : w33.cell? ⟨gb157, 0, none⟩ = some (.int .u8 t153) := (blk_cell BK157.out 0).trans rfl; have hcz36_1 : w33.cell? ⟨gb157, 1, none⟩ = some (.int .i64 x158001_3) := (blk_cell BK157.out 1).trans rfl; have hcz36_2 : w33.cell? ⟨gb157, 2, none⟩ = some (.string (⟨#[]⟩ : ByteArray)) := (blk_cell BK157.out 2).trans rfl; have hcz36_3 : w33.cell? ⟨gb157, 3, none⟩ = some (.int .i64 0) := (blk_cell BK157.out 3).trans rfl; have hfz36_0 := blk_frozen BK157.out 0; have hfz36_1 := blk_frozen BK157.out 1; have hfz36_2 := blk_frozen BK157.out 2; have hfz36_3 := blk_frozen BK157.out 3))
        go_meet
        case rel => exact ⟨_, (t167), (t168), (t169), (a0.extract ((ji30) : Int).toNat a0.size), (0), H', ⟨by have := HJ3.out; first | omega | exact Nat.le_refl _⟩, ⟨by (with_reducible repeat (first | refine blk_drewN ?_ _ | refine blk_drew ?_ | refine blk_alloc ?_ _)); refine blk_far ?_ NB148_157.out _; (with_reducible repeat (first | refine blk_drewN ?_ _ | refine blk_drew ?_ | refine blk_alloc ?_ _)); exact BK148.out⟩, ⟨by (with_reducible repeat (first | refine blk_drewN ?_ _ | refine blk_drew ?_ | refine blk_alloc ?_ _)); refine blk_put (cs := #[.int .u8 t153, .int .i64 x158001_3, .string (⟨#[]⟩ : ByteArray), .int .i64 0]) ?_ 2 _ rfl; (with_reducible repeat (first | refine blk_drewN ?_ _ | refine blk_drew ?_ | refine blk_alloc ?_ _)); exact BK157.out⟩, ⟨by repeat (first | (with_reducible first | exact HI152.out | apply IsS133.alloc | apply IsS133.drewN | apply IsS133.drew | apply IsS133.set_0 | apply IsS133.set_1 | apply IsS133.set_2 | refine IsS133.far ?_ NB152_148.out _ | refine IsS133.far ?_ NB152_157.out _) | exact HI152.out)⟩, ⟨by repeat (first | (with_reducible first | exact HB.out | apply below_alloc | apply pw_below_drewN | apply below_drew1 | refine below_set ?_ (IsS133.ge HI152.out) | refine below_set ?_ GE148.out | refine below_set ?_ GE157.out) | exact HB.out)⟩⟩
       ·rw [if_neg c32] at H
        exact absurd H (by simp)
      ·rw [if_neg c31] at H
       exact absurd H (by simp)
     ·rw [if_neg c28] at H
      have c28b0 : (t153 == 100) = false := beq_eq_false_iff_ne.mpr c28
      have c28b1 : (t153 != 100) = true := bne_iff_ne.mpr c28
      by_cases c37 : t153 = 120
      ·rw [if_pos c37] at H
       have c37b0 : (t153 == 120) = true := beq_iff_eq.mpr c37
       have c37b1 : (t153 != 120) = false := bne_eq_false_iff_eq.mpr c37
       clear c37
       replace H := Option.bind_eq_some_iff.mp H
       obtain ⟨⟨t170, t171, t172, t173⟩, A380, H⟩ := H
       replace H : (if 0 ≤ (wrap64 ((a0.size : Int) - t170)) then (if (wrap64 ((a0.size : Int) - t170)) ≤ (a0.size : Int) then (key_Parse.j1 kj3 a0 t171 t172 t173 t153 x158001_3 (a0.extract ((wrap64 ((a0.size : Int) - t170)) : Int).toNat a0.size) 0) else (none)) else (none)) = some (r1, r2, r3, r4, r5) := H
       have A38 := Aside0.mk A380
       clear A380
       obtain ⟨ji39, hji39⟩ : ∃ j_ : Int, (wrap64 ((a0.size : Int) - t170)) = j_ := ⟨_, rfl⟩
       replace H : (if 0 ≤ (ji39) then (if (ji39) ≤ (a0.size : Int) then (key_Parse.j1 kj3 a0 t171 t172 t173 t153 x158001_3 (a0.extract ((ji39) : Int).toNat a0.size) 0) else (none)) else (none)) = some (r1, r2, r3, r4, r5) := by first | (rw [hji39] at H; exact H) | (simp only [hji39] at H ⊢; exact H)
       (try rw [hji39] at A38)
       have hji39w : (IntKind.i64.wrap ((a0.size : Int) - t170)) = ji39 := (i64_w _).trans hji39
       by_cases c40 : 0 ≤ (ji39)
       ·rw [if_pos c40] at H
        have c40b0 := eq_true c40
        have c40b1 : decide (0 ≤ (ji39)) = true := decide_eq_true c40
        clear c40
        by_cases c41 : (ji39) ≤ (a0.size : Int)
        ·rw [if_pos c41] at H
         have c41b0 := eq_true c41
         have c41b1 : decide ((ji39) ≤ (a0.size : Int)) = true := decide_eq_true c41
         clear c41
         have H' := Aside0.mk H
         clear H
         go_wp2_with (first | ((with_reducible refine gate_callee (f := 80) rfl ?_); refine goesL_ (some 35) rfl rfl Try.func80 (by kernel_rfl) rfl #[.pointer (some ⟨g152, 0, none⟩)] rfl (by (try simp only [List.map_toArray, List.map_cons, List.map_nil]); first | done | rfl | (simp only [List.length_drop, List.length_take]; rfl)) ?_; (with_reducible refine (pack_Reader_Left.calls g152 x153000_3 x153001_3 x153002_3 t170 t171 t172 t173 w _ ?side1 ?side2 A38.out).mono ?_); (case side1 => repeat (first | (with_reducible first | exact HI152.out | apply IsS133.alloc | apply IsS133.drewN | apply IsS133.drew | apply IsS133.set_0 | apply IsS133.set_1 | apply IsS133.set_2 | refine IsS133.far ?_ NB152_148.out _ | refine IsS133.far ?_ NB152_157.out _) | exact HI152.out)); (case side2 => repeat (first | (with_reducible first | exact HB.out | apply below_alloc | apply pw_below_drewN | apply below_drew1 | refine below_set ?_ (IsS133.ge HI152.out) | refine below_set ?_ GE148.out | refine below_set ?_ GE157.out) | exact HB.out)); rintro e w42 ⟨rfl, hi, hb, hk⟩; refine ⟨_, rfl, ?_⟩; have n0_ := Aside0.mk (KeepBut.blk hk (g' := gb148) (o := .cells #[.int .u8 0, .int .i64 0, .string (⟨#[]⟩ : ByteArray), .int .i64 0] 90 (0, 0)) (by (with_reducible repeat (first | refine blk_drewN ?_ _ | refine blk_drew ?_ | refine blk_alloc ?_ _)); exact BK148.out) NB148_152.out (by simp)); have n1_ := Aside0.mk (KeepBut.blk hk (g' := gb157) (o := .cells #[.int .u8 t153, .int .i64 x158001_3, .string (⟨#[]⟩ : ByteArray), .int .i64 0] 90 (0, 0)) (by (with_reducible repeat (first | refine blk_drewN ?_ _ | refine blk_drew ?_ | refine blk_alloc ?_ _)); exact BK157.out) NB157_152.out (by simp)); have n2_ := Aside0.mk (hb); have n3_ := Aside0.mk (hi); clear BK148; clear BK157; clear HB; clear HI152; have BK148 := n0_; have BK157 := n1_; have HB := n2_; have HI152 := n3_; clear n0_ n1_ n2_ n3_; (try clear hb); (try clear hb2); (try clear hk); (try clear hi); have hnb43 := NB157_148.out; have hnc43 := NB148_157.out; have hnb44 := NB157_152.out; have hnc44 := NB152_157.out; have hcz45_0 : w42.cell? ⟨gb157, 0, none⟩ = some (.int .u8 t153) := (blk_cell BK157.out 0).trans rfl; have hcz45_1 : w42.cell? ⟨gb157, 1, none⟩ = some (.int .i64 x158001_3) := (blk_cell BK157.out 1).trans rfl; have hcz45_2 : w42.cell? ⟨gb157, 2, none⟩ = some (.string (⟨#[]⟩ : ByteArray)) := (blk_cell BK157.out 2).trans rfl; have hcz45_3 : w42.cell? ⟨gb157, 3, none⟩ = some (.int .i64 0) := (blk_cell BK157.out 3).trans rfl; have hfz45_0 := blk_frozen BK157.out 0; have hfz45_1 := blk_frozen BK157.out 1; have hfz45_2 := blk_frozen BK157.out 2; have hfz45_3 := blk_frozen BK157.out 3))
         go_meet
         case rel => exact ⟨_, (t171), (t172), (t173), (a0.extract ((ji39) : Int).toNat a0.size), (0), H', ⟨by have := HJ3.out; first | omega | exact Nat.le_refl _⟩, ⟨by (with_reducible repeat (first | refine blk_drewN ?_ _ | refine blk_drew ?_ | refine blk_alloc ?_ _)); refine blk_far ?_ NB148_157.out _; (with_reducible repeat (first | refine blk_drewN ?_ _ | refine blk_drew ?_ | refine blk_alloc ?_ _)); exact BK148.out⟩, ⟨by (with_reducible repeat (first | refine blk_drewN ?_ _ | refine blk_drew ?_ | refine blk_alloc ?_ _)); refine blk_put (cs := #[.int .u8 t153, .int .i64 x158001_3, .string (⟨#[]⟩ : ByteArray), .int .i64 0]) ?_ 2 _ rfl; (with_reducible repeat (first | refine blk_drewN ?_ _ | refine blk_drew ?_ | refine blk_alloc ?_ _)); exact BK157.out⟩, ⟨by repeat (first | (with_reducible first | exact HI152.out | apply IsS133.alloc | apply IsS133.drewN | apply IsS133.drew | apply IsS133.set_0 | apply IsS133.set_1 | apply IsS133.set_2 | refine IsS133.far ?_ NB152_148.out _ | refine IsS133.far ?_ NB152_157.out _) | exact HI152.out)⟩, ⟨by repeat (first | (with_reducible first | exact HB.out | apply below_alloc | apply pw_below_drewN | apply below_drew1 | refine below_set ?_ (IsS133.ge HI152.out) | refine below_set ?_ GE148.out | refine below_set ?_ GE157.out) | exact HB.out)⟩⟩
        ·rw [if_neg c41] at H
         exact absurd H (by simp)
       ·rw [if_neg c40] at H
        exact absurd H (by simp)
      ·rw [if_neg c37] at H
       have c37b0 : (t153 == 120) = false := beq_eq_false_iff_ne.mpr c37
       have c37b1 : (t153 != 120) = true := bne_iff_ne.mpr c37
       have H' := Aside0.mk H
       clear H
       go_wp2
       go_meet
       case rel => exact ⟨_, (x153000_3), (x153001_3), (x153002_3), ((⟨#[]⟩ : ByteArray)), (0), H', ⟨by have := HJ3.out; first | omega | exact Nat.le_refl _⟩, ⟨by (with_reducible repeat (first | refine blk_drewN ?_ _ | refine blk_drew ?_ | refine blk_alloc ?_ _)); exact BK148.out⟩, ⟨by (with_reducible repeat (first | refine blk_drewN ?_ _ | refine blk_drew ?_ | refine blk_alloc ?_ _)); exact BK157.out⟩, ⟨by repeat (first | (with_reducible first | exact HI152.out | apply IsS133.alloc | apply IsS133.drewN | apply IsS133.drew | apply IsS133.set_0 | apply IsS133.set_1 | apply IsS133.set_2 | refine IsS133.far ?_ NB152_148.out _ | refine IsS133.far ?_ NB152_157.out _) | exact HI152.out)⟩, ⟨by repeat (first | (with_reducible first | exact HB.out | apply below_alloc | apply pw_below_drewN | apply below_drew1 | refine below_set ?_ (IsS133.ge HI152.out) | refine below_set ?_ GE148.out | refine below_set ?_ GE157.out) | exact HB.out)⟩⟩
   case rest =>
    clear HC18
    try clear c1
    try clear c2
    try clear p2
    try clear c3
    try clear c4
    try clear c6
    try clear p6
    try clear c7
    try clear c8
    try clear c9
    try clear c10
    try clear c12
    try clear c12b0
    try clear c12b1
    try clear c15
    try clear c16
    try clear c19
    try clear c20
    try clear c22
    try clear c22b0
    try clear c22b1
    try clear c25
    try clear c26
    try clear c28
    try clear c28b0
    try clear c28b1
    try clear c31
    try clear c31b0
    try clear c31b1
    try clear c32
    try clear c32b0
    try clear c32b1
    try clear c34
    try clear c35
    try clear c37
    try clear c37b0
    try clear c37b1
    try clear c40
    try clear c40b0
    try clear c40b1
    try clear c41
    try clear c41b0
    try clear c41b1
    try clear c43
    try clear c44
    try clear hcz11_0
    try clear hcz11_1
    try clear hcz11_2
    try clear hcz11_3
    try clear hcz17_0
    try clear hcz17_1
    try clear hcz17_2
    try clear hcz17_3
    try clear hcz21_0
    try clear hcz21_1
    try clear hcz21_2
    try clear hcz21_3
    try clear hcz27_0
    try clear hcz27_1
    try clear hcz27_2
    try clear hcz27_3
    try clear hcz36_0
    try clear hcz36_1
    try clear hcz36_2
    try clear hcz36_3
    try clear hcz45_0
    try clear hcz45_1
    try clear hcz45_2
    try clear hcz45_3
    try clear hfz11_0
    try clear hfz11_1
    try clear hfz11_2
    try clear hfz11_3
    try clear hfz17_0
    try clear hfz17_1
    try clear hfz17_2
    try clear hfz17_3
    try clear hfz21_0
    try clear hfz21_1
    try clear hfz21_2
    try clear hfz21_3
    try clear hfz27_0
    try clear hfz27_1
    try clear hfz27_2
    try clear hfz27_3
    try clear hfz36_0
    try clear hfz36_1
    try clear hfz36_2
    try clear hfz36_3
    try clear hfz45_0
    try clear hfz45_1
    try clear hfz45_2
    try clear hfz45_3
    try clear p2
    try clear p6
    obtain ⟨kq, x153000_17, x153001_17, x153002_17, x158002_17, x158003_17, HA, HJ17, BK148, BK157, HI152, HB⟩ := hcut
    cases kq with
    | zero => exact absurd HA.out (by simp [key_Parse.j1])
    | succ kj17 =>
     have H := HA.out
     clear HA
     simp only [key_Parse.j1] at H
     replace H := Option.bind_eq_some_iff.mp H
     obtain ⟨⟨t174, t175⟩, A460, H⟩ := H
     replace H : ((pack_Reader_Err.f x153000_17 x153001_17 x153002_17).bind fun bt176 => (if bt176.1 = 0 then (if t175 = 0 then (if t174.toList = a0.toList then (some (t153, x158001_3, x158002_17, x158003_17, 0)) else (some (0, 0, (⟨#[]⟩ : ByteArray), 0, 81))) else (some (0, 0, (⟨#[]⟩ : ByteArray), 0, 81))) else (some (0, 0, (⟨#[]⟩ : ByteArray), 0, 81)))) = some (r1, r2, r3, r4, r5) := H
     have A46 := Aside0.mk A460
     clear A460
     replace H := Option.bind_eq_some_iff.mp H
     obtain ⟨⟨t176, t177, t178, t179⟩, A470, H⟩ := H
     replace H : (if t176 = 0 then (if t175 = 0 then (if t174.toList = a0.toList then (some (t153, x158001_3, x158002_17, x158003_17, 0)) else (some (0, 0, (⟨#[]⟩ : ByteArray), 0, 81))) else (some (0, 0, (⟨#[]⟩ : ByteArray), 0, 81))) else (some (0, 0, (⟨#[]⟩ : ByteArray), 0, 81))) = some (r1, r2, r3, r4, r5) := H
     have A47 := Aside0.mk A470
     clear A470
     by_cases c48 : t176 = 0
     ·rw [if_pos c48] at H
      have c48b0 : (t176 == 0) = true := beq_iff_eq.mpr c48
      have c48b1 : (t176 != 0) = false := bne_eq_false_iff_eq.mpr c48
      clear c48
      by_cases c49 : t175 = 0
      ·rw [if_pos c49] at H
       have c49b0 : (t175 == 0) = true := beq_iff_eq.mpr c49
       have c49b1 : (t175 != 0) = false := bne_eq_false_iff_eq.mpr c49
       clear c49
       by_cases c50 : t174.toList = a0.toList
       ·rw [if_pos c50] at H
        have c50b0 : (t174.toList == a0.toList) = true := beq_iff_eq.mpr c50
        have c50b1 : (t174.toList != a0.toList) = false := bne_eq_false_iff_eq.mpr c50
        clear c50
        simp only [Option.some.injEq, Prod.mk.injEq] at H
        obtain ⟨rfl, rfl, rfl, rfl, rfl⟩ := H
        have hnb51 := NB157_148.out
        have hnc51 := NB148_157.out
        have hnb52 := NB157_152.out
        have hnc52 := NB152_157.out
        have hcz53_0 : wc.cell? ⟨gb157, 0, none⟩ = some (.int .u8 t153) := (blk_cell BK157.out 0).trans rfl
        have hcz53_1 : wc.cell? ⟨gb157, 1, none⟩ = some (.int .i64 x158001_3) := (blk_cell BK157.out 1).trans rfl
        have hcz53_2 : wc.cell? ⟨gb157, 2, none⟩ = some (.string x158002_17) := (blk_cell BK157.out 2).trans rfl
        have hcz53_3 : wc.cell? ⟨gb157, 3, none⟩ = some (.int .i64 x158003_17) := (blk_cell BK157.out 3).trans rfl
        have hfz53_0 := blk_frozen BK157.out 0
        have hfz53_1 := blk_frozen BK157.out 1
        have hfz53_2 := blk_frozen BK157.out 2
        have hfz53_3 := blk_frozen BK157.out 3
        go_wp2_with (first | ((with_reducible refine gate_callee (f := 69) rfl ?_); refine goesL_ (some 41) rfl rfl Try.func69 (by kernel_rfl) rfl #[.agg #[.int .u8 t153, .int .i64 x158001_3, .string x158002_17, .int .i64 x158003_17]] rfl (by (try simp only [List.map_toArray, List.map_cons, List.map_nil]); first | done | rfl | (simp only [List.length_drop, List.length_take]; rfl)) ?_; (with_reducible refine (key_Make.calls kj17 t153 x158001_3 x158002_17 x158003_17 t174 t175 _ A46.out).mono ?_); rintro e w54 ⟨rfl, hb⟩; refine ⟨_, rfl, ?_⟩; have n0_ := Aside0.mk (blk_below (g := gb148) (o := .cells #[.int .u8 0, .int .i64 0, .string (⟨#[]⟩ : ByteArray), .int .i64 0] 90 (0, 0)) (by (with_reducible repeat (first | refine blk_drewN ?_ _ | refine blk_drew ?_ | refine blk_alloc ?_ _)); exact BK148.out) hb); have n1_ := Aside0.mk (blk_below (g := gb157) (o := .cells #[.int .u8 t153, .int .i64 x158001_3, .string x158002_17, .int .i64 x158003_17] 90 (0, 0)) (by (with_reducible repeat (first | refine blk_drewN ?_ _ | refine blk_drew ?_ | refine blk_alloc ?_ _)); exact BK157.out) hb); have n2_ := Aside0.mk (IsS133.below (by repeat (first | (with_reducible first | exact HI152.out | apply IsS133.alloc | apply IsS133.drewN | apply IsS133.drew | apply IsS133.set_0 | apply IsS133.set_1 | apply IsS133.set_2 | refine IsS133.far ?_ NB152_148.out _ | refine IsS133.far ?_ NB152_157.out _) | exact HI152.out)) hb); have n3_ := Aside0.mk (below_step (by repeat (first | (with_reducible first | exact HB.out | apply below_alloc | apply pw_below_drewN | apply below_drew1 | refine below_set ?_ (IsS133.ge HI152.out) | refine below_set ?_ GE148.out | refine below_set ?_ GE157.out) | exact HB.out)) hb); clear BK148; clear BK157; clear HI152; clear HB; have BK148 := n0_; have BK157 := n1_; have HI152 := n2_; have HB := n3_; clear n0_ n1_ n2_ n3_; (try clear hb); (try clear hb2); (try clear hk); (try clear hi)) | ((with_reducible refine gate_callee (f := 81) rfl ?_); refine goesL_ (some 45) rfl rfl Try.func81 (by kernel_rfl) rfl #[.pointer (some ⟨g152, 0, none⟩)] rfl (by (try simp only [List.map_toArray, List.map_cons, List.map_nil]); first | done | rfl | (simp only [List.length_drop, List.length_take]; rfl)) ?_; (with_reducible refine (pack_Reader_Err.calls g152 x153000_17 x153001_17 x153002_17 t176 t177 t178 t179 w _ ?side1 ?side2 A47.out).mono ?_); (case side1 => repeat (first | (with_reducible first | exact HI152.out | apply IsS133.alloc | apply IsS133.drewN | apply IsS133.drew | apply IsS133.set_0 | apply IsS133.set_1 | apply IsS133.set_2 | refine IsS133.far ?_ NB152_148.out _ | refine IsS133.far ?_ NB152_157.out _) | exact HI152.out)); (case side2 => repeat (first | (with_reducible first | exact HB.out | apply below_alloc | apply pw_below_drewN | apply below_drew1 | refine below_set ?_ (IsS133.ge HI152.out) | refine below_set ?_ GE148.out | refine below_set ?_ GE157.out) | exact HB.out)); rintro e w55 ⟨rfl, hi, hb, hk⟩; refine ⟨_, rfl, ?_⟩; have n0_ := Aside0.mk (KeepBut.blk hk (g' := gb148) (o := .cells #[.int .u8 0, .int .i64 0, .string (⟨#[]⟩ : ByteArray), .int .i64 0] 90 (0, 0)) (by (with_reducible repeat (first | refine blk_drewN ?_ _ | refine blk_drew ?_ | refine blk_alloc ?_ _)); exact BK148.out) NB148_152.out (by simp)); have n1_ := Aside0.mk (KeepBut.blk hk (g' := gb157) (o := .cells #[.int .u8 t153, .int .i64 x158001_3, .string x158002_17, .int .i64 x158003_17] 90 (0, 0)) (by (with_reducible repeat (first | refine blk_drewN ?_ _ | refine blk_drew ?_ | refine blk_alloc ?_ _)); exact BK157.out) NB157_152.out (by simp)); have n2_ := Aside0.mk (hb); have n3_ := Aside0.mk (hi); clear BK148; clear BK157; clear HB; clear HI152; have BK148 := n0_; have BK157 := n1_; have HB := n2_; have HI152 := n3_; clear n0_ n1_ n2_ n3_; (try clear hb); (try clear hb2); (try clear hk); (try clear hi); have hcz56_0 : w55.cell? ⟨gb157, 0, none⟩ = some (.int .u8 t153) := (blk_cell BK157.out 0).trans rfl; have hcz56_1 : w55.cell? ⟨gb157, 1, none⟩ = some (.int .i64 x158001_3) := (blk_cell BK157.out 1).trans rfl; have hcz56_2 : w55.cell? ⟨gb157, 2, none⟩ = some (.string x158002_17) := (blk_cell BK157.out 2).trans rfl; have hcz56_3 : w55.cell? ⟨gb157, 3, none⟩ = some (.int .i64 x158003_17) := (blk_cell BK157.out 3).trans rfl; have hfz56_0 := blk_frozen BK157.out 0; have hfz56_1 := blk_frozen BK157.out 1; have hfz56_2 := blk_frozen BK157.out 2; have hfz56_3 := blk_frozen BK157.out 3; have hnb57 := NB148_152.out; have hnc57 := NB152_148.out; have hcz58_0 : w55.cell? ⟨gb148, 0, none⟩ = some (.int .u8 0) := (blk_cell BK148.out 0).trans rfl; have hcz58_1 : w55.cell? ⟨gb148, 1, none⟩ = some (.int .i64 0) := (blk_cell BK148.out 1).trans rfl; have hcz58_2 : w55.cell? ⟨gb148, 2, none⟩ = some (.string (⟨#[]⟩ : ByteArray)) := (blk_cell BK148.out 2).trans rfl; have hcz58_3 : w55.cell? ⟨gb148, 3, none⟩ = some (.int .i64 0) := (blk_cell BK148.out 3).trans rfl; have hfz58_0 := blk_frozen BK148.out 0; have hfz58_1 := blk_frozen BK148.out 1; have hfz58_2 := blk_frozen BK148.out 2; have hfz58_3 := blk_frozen BK148.out 3))
        refine bodyPost_ret (results_ct rfl _ _ gb148 90 #[.int .u8 t153, .int .i64 x158001_3, .string x158002_17, .int .i64 x158003_17] (0, 0) _ rfl (by (with_reducible repeat (first | refine blk_drewN ?_ _ | refine blk_drew ?_ | refine blk_alloc ?_ _)); refine blk_put (cs := #[.int .u8 t153, .int .i64 x158001_3, .string x158002_17, .int .i64 0]) ?_ 3 _ rfl; (with_reducible repeat (first | refine blk_drewN ?_ _ | refine blk_drew ?_ | refine blk_alloc ?_ _)); refine blk_put (cs := #[.int .u8 t153, .int .i64 x158001_3, .string (⟨#[]⟩ : ByteArray), .int .i64 0]) ?_ 2 _ rfl; (with_reducible repeat (first | refine blk_drewN ?_ _ | refine blk_drew ?_ | refine blk_alloc ?_ _)); refine blk_put (cs := #[.int .u8 t153, .int .i64 0, .string (⟨#[]⟩ : ByteArray), .int .i64 0]) ?_ 1 _ rfl; (with_reducible repeat (first | refine blk_drewN ?_ _ | refine blk_drew ?_ | refine blk_alloc ?_ _)); refine blk_put (cs := #[.int .u8 0, .int .i64 0, .string (⟨#[]⟩ : ByteArray), .int .i64 0]) ?_ 0 _ rfl; (with_reducible repeat (first | refine blk_drewN ?_ _ | refine blk_drew ?_ | refine blk_alloc ?_ _)); exact BK148.out) Try.underlying90 rfl (by kernel_rfl)) rfl ?_
        exact ⟨by first | rfl | (simp [errW_none, errW_some] <;> rfl) | (simp [*, errW_none, errW_some] <;> rfl), by repeat (first | (with_reducible first | exact HB.out | apply below_alloc | apply pw_below_drewN | apply below_drew1 | refine below_set ?_ (IsS133.ge HI152.out) | refine below_set ?_ GE148.out | refine below_set ?_ GE157.out) | exact HB.out)⟩
       ·rw [if_neg c50] at H
        have c50b0 : (t174.toList == a0.toList) = false := beq_eq_false_iff_ne.mpr c50
        have c50b1 : (t174.toList != a0.toList) = true := bne_iff_ne.mpr c50
        simp only [Option.some.injEq, Prod.mk.injEq] at H
        obtain ⟨rfl, rfl, rfl, rfl, rfl⟩ := H
        have hnb59 := NB157_148.out
        have hnc59 := NB148_157.out
        have hnb60 := NB157_152.out
        have hnc60 := NB152_157.out
        have hcz61_0 : wc.cell? ⟨gb157, 0, none⟩ = some (.int .u8 t153) := (blk_cell BK157.out 0).trans rfl
        have hcz61_1 : wc.cell? ⟨gb157, 1, none⟩ = some (.int .i64 x158001_3) := (blk_cell BK157.out 1).trans rfl
        have hcz61_2 : wc.cell? ⟨gb157, 2, none⟩ = some (.string x158002_17) := (blk_cell BK157.out 2).trans rfl
        have hcz61_3 : wc.cell? ⟨gb157, 3, none⟩ = some (.int .i64 x158003_17) := (blk_cell BK157.out 3).trans rfl
        have hfz61_0 := blk_frozen BK157.out 0
        have hfz61_1 := blk_frozen BK157.out 1
        have hfz61_2 := blk_frozen BK157.out 2
        have hfz61_3 := blk_frozen BK157.out 3
        go_wp2_with (first | ((with_reducible refine gate_callee (f := 69) rfl ?_); refine goesL_ (some 41) rfl rfl Try.func69 (by kernel_rfl) rfl #[.agg #[.int .u8 t153, .int .i64 x158001_3, .string x158002_17, .int .i64 x158003_17]] rfl (by (try simp only [List.map_toArray, List.map_cons, List.map_nil]); first | done | rfl | (simp only [List.length_drop, List.length_take]; rfl)) ?_; (with_reducible refine (key_Make.calls kj17 t153 x158001_3 x158002_17 x158003_17 t174 t175 _ A46.out).mono ?_); rintro e w62 ⟨rfl, hb⟩; refine ⟨_, rfl, ?_⟩; have n0_ := Aside0.mk (blk_below (g := gb148) (o := .cells #[.int .u8 0, .int .i64 0, .string (⟨#[]⟩ : ByteArray), .int .i64 0] 90 (0, 0)) (by (with_reducible repeat (first | refine blk_drewN ?_ _ | refine blk_drew ?_ | refine blk_alloc ?_ _)); exact BK148.out) hb); have n1_ := Aside0.mk (blk_below (g := gb157) (o := .cells #[.int .u8 t153, .int .i64 x158001_3, .string x158002_17, .int .i64 x158003_17] 90 (0, 0)) (by (with_reducible repeat (first | refine blk_drewN ?_ _ | refine blk_drew ?_ | refine blk_alloc ?_ _)); exact BK157.out) hb); have n2_ := Aside0.mk (IsS133.below (by repeat (first | (with_reducible first | exact HI152.out | apply IsS133.alloc | apply IsS133.drewN | apply IsS133.drew | apply IsS133.set_0 | apply IsS133.set_1 | apply IsS133.set_2 | refine IsS133.far ?_ NB152_148.out _ | refine IsS133.far ?_ NB152_157.out _) | exact HI152.out)) hb); have n3_ := Aside0.mk (below_step (by repeat (first | (with_reducible first | exact HB.out | apply below_alloc | apply pw_below_drewN | apply below_drew1 | refine below_set ?_ (IsS133.ge HI152.out) | refine below_set ?_ GE148.out | refine below_set ?_ GE157.out) | exact HB.out)) hb); clear BK148; clear BK157; clear HI152; clear HB; have BK148 := n0_; have BK157 := n1_; have HI152 := n2_; have HB := n3_; clear n0_ n1_ n2_ n3_; (try clear hb); (try clear hb2); (try clear hk); (try clear hi)) | ((with_reducible refine gate_callee (f := 81) rfl ?_); refine goesL_ (some 45) rfl rfl Try.func81 (by kernel_rfl) rfl #[.pointer (some ⟨g152, 0, none⟩)] rfl (by (try simp only [List.map_toArray, List.map_cons, List.map_nil]); first | done | rfl | (simp only [List.length_drop, List.length_take]; rfl)) ?_; (with_reducible refine (pack_Reader_Err.calls g152 x153000_17 x153001_17 x153002_17 t176 t177 t178 t179 w _ ?side1 ?side2 A47.out).mono ?_); (case side1 => repeat (first | (with_reducible first | exact HI152.out | apply IsS133.alloc | apply IsS133.drewN | apply IsS133.drew | apply IsS133.set_0 | apply IsS133.set_1 | apply IsS133.set_2 | refine IsS133.far ?_ NB152_148.out _ | refine IsS133.far ?_ NB152_157.out _) | exact HI152.out)); (case side2 => repeat (first | (with_reducible first | exact HB.out | apply below_alloc | apply pw_below_drewN | apply below_drew1 | refine below_set ?_ (IsS133.ge HI152.out) | refine below_set ?_ GE148.out | refine below_set ?_ GE157.out) | exact HB.out)); rintro e w63 ⟨rfl, hi, hb, hk⟩; refine ⟨_, rfl, ?_⟩; have n0_ := Aside0.mk (KeepBut.blk hk (g' := gb148) (o := .cells #[.int .u8 0, .int .i64 0, .string (⟨#[]⟩ : ByteArray), .int .i64 0] 90 (0, 0)) (by (with_reducible repeat (first | refine blk_drewN ?_ _ | refine blk_drew ?_ | refine blk_alloc ?_ _)); exact BK148.out) NB148_152.out (by simp)); have n1_ := Aside0.mk (KeepBut.blk hk (g' := gb157) (o := .cells #[.int .u8 t153, .int .i64 x158001_3, .string x158002_17, .int .i64 x158003_17] 90 (0, 0)) (by (with_reducible repeat (first | refine blk_drewN ?_ _ | refine blk_drew ?_ | refine blk_alloc ?_ _)); exact BK157.out) NB157_152.out (by simp)); have n2_ := Aside0.mk (hb); have n3_ := Aside0.mk (hi); clear BK148; clear BK157; clear HB; clear HI152; have BK148 := n0_; have BK157 := n1_; have HB := n2_; have HI152 := n3_; clear n0_ n1_ n2_ n3_; (try clear hb); (try clear hb2); (try clear hk); (try clear hi); have hnb64 := NB148_152.out; have hnc64 := NB152_148.out; have hcz65_0 : w63.cell? ⟨gb148, 0, none⟩ = some (.int .u8 0) := (blk_cell BK148.out 0).trans rfl; have hcz65_1 : w63.cell? ⟨gb148, 1, none⟩ = some (.int .i64 0) := (blk_cell BK148.out 1).trans rfl; have hcz65_2 : w63.cell? ⟨gb148, 2, none⟩ = some (.string (⟨#[]⟩ : ByteArray)) := (blk_cell BK148.out 2).trans rfl; have hcz65_3 : w63.cell? ⟨gb148, 3, none⟩ = some (.int .i64 0) := (blk_cell BK148.out 3).trans rfl; have hfz65_0 := blk_frozen BK148.out 0; have hfz65_1 := blk_frozen BK148.out 1; have hfz65_2 := blk_frozen BK148.out 2; have hfz65_3 := blk_frozen BK148.out 3))
        refine bodyPost_ret (results_ct rfl _ _ gb148 90 #[.int .u8 0, .int .i64 0, .string (⟨#[]⟩ : ByteArray), .int .i64 0] (0, 0) _ rfl (by (with_reducible repeat (first | refine blk_drewN ?_ _ | refine blk_drew ?_ | refine blk_alloc ?_ _)); refine blk_put (cs := #[.int .u8 0, .int .i64 0, .string (⟨#[]⟩ : ByteArray), .int .i64 0]) ?_ 3 _ rfl; (with_reducible repeat (first | refine blk_drewN ?_ _ | refine blk_drew ?_ | refine blk_alloc ?_ _)); refine blk_put (cs := #[.int .u8 0, .int .i64 0, .string (⟨#[]⟩ : ByteArray), .int .i64 0]) ?_ 2 _ rfl; (with_reducible repeat (first | refine blk_drewN ?_ _ | refine blk_drew ?_ | refine blk_alloc ?_ _)); refine blk_put (cs := #[.int .u8 0, .int .i64 0, .string (⟨#[]⟩ : ByteArray), .int .i64 0]) ?_ 1 _ rfl; (with_reducible repeat (first | refine blk_drewN ?_ _ | refine blk_drew ?_ | refine blk_alloc ?_ _)); refine blk_put (cs := #[.int .u8 0, .int .i64 0, .string (⟨#[]⟩ : ByteArray), .int .i64 0]) ?_ 0 _ rfl; (with_reducible repeat (first | refine blk_drewN ?_ _ | refine blk_drew ?_ | refine blk_alloc ?_ _)); exact BK148.out) Try.underlying90 rfl (by kernel_rfl)) rfl ?_
        exact ⟨by first | rfl | (simp [errW_none, errW_some] <;> rfl) | (simp [*, errW_none, errW_some] <;> rfl), by repeat (first | (with_reducible first | exact HB.out | apply below_alloc | apply pw_below_drewN | apply below_drew1 | refine below_set ?_ (IsS133.ge HI152.out) | refine below_set ?_ GE148.out | refine below_set ?_ GE157.out) | exact HB.out)⟩
      ·rw [if_neg c49] at H
       have c49b0 : (t175 == 0) = false := beq_eq_false_iff_ne.mpr c49
       have c49b1 : (t175 != 0) = true := bne_iff_ne.mpr c49
       simp only [Option.some.injEq, Prod.mk.injEq] at H
       obtain ⟨rfl, rfl, rfl, rfl, rfl⟩ := H
       have hnb66 := NB157_148.out
       have hnc66 := NB148_157.out
       have hnb67 := NB157_152.out
       have hnc67 := NB152_157.out
       have hcz68_0 : wc.cell? ⟨gb157, 0, none⟩ = some (.int .u8 t153) := (blk_cell BK157.out 0).trans rfl
       have hcz68_1 : wc.cell? ⟨gb157, 1, none⟩ = some (.int .i64 x158001_3) := (blk_cell BK157.out 1).trans rfl
       have hcz68_2 : wc.cell? ⟨gb157, 2, none⟩ = some (.string x158002_17) := (blk_cell BK157.out 2).trans rfl
       have hcz68_3 : wc.cell? ⟨gb157, 3, none⟩ = some (.int .i64 x158003_17) := (blk_cell BK157.out 3).trans rfl
       have hfz68_0 := blk_frozen BK157.out 0
       have hfz68_1 := blk_frozen BK157.out 1
       have hfz68_2 := blk_frozen BK157.out 2
       have hfz68_3 := blk_frozen BK157.out 3
       go_wp2_with (first | ((with_reducible refine gate_callee (f := 69) rfl ?_); refine goesL_ (some 41) rfl rfl Try.func69 (by kernel_rfl) rfl #[.agg #[.int .u8 t153, .int .i64 x158001_3, .string x158002_17, .int .i64 x158003_17]] rfl (by (try simp only [List.map_toArray, List.map_cons, List.map_nil]); first | done | rfl | (simp only [List.length_drop, List.length_take]; rfl)) ?_; (with_reducible refine (key_Make.calls kj17 t153 x158001_3 x158002_17 x158003_17 t174 t175 _ A46.out).mono ?_); rintro e w69 ⟨rfl, hb⟩; refine ⟨_, rfl, ?_⟩; have n0_ := Aside0.mk (blk_below (g := gb148) (o := .cells #[.int .u8 0, .int .i64 0, .string (⟨#[]⟩ : ByteArray), .int .i64 0] 90 (0, 0)) (by (with_reducible repeat (first | refine blk_drewN ?_ _ | refine blk_drew ?_ | refine blk_alloc ?_ _)); exact BK148.out) hb); have n1_ := Aside0.mk (blk_below (g := gb157) (o := .cells #[.int .u8 t153, .int .i64 x158001_3, .string x158002_17, .int .i64 x158003_17] 90 (0, 0)) (by (with_reducible repeat (first | refine blk_drewN ?_ _ | refine blk_drew ?_ | refine blk_alloc ?_ _)); exact BK157.out) hb); have n2_ := Aside0.mk (IsS133.below (by repeat (first | (with_reducible first | exact HI152.out | apply IsS133.alloc | apply IsS133.drewN | apply IsS133.drew | apply IsS133.set_0 | apply IsS133.set_1 | apply IsS133.set_2 | refine IsS133.far ?_ NB152_148.out _ | refine IsS133.far ?_ NB152_157.out _) | exact HI152.out)) hb); have n3_ := Aside0.mk (below_step (by repeat (first | (with_reducible first | exact HB.out | apply below_alloc | apply pw_below_drewN | apply below_drew1 | refine below_set ?_ (IsS133.ge HI152.out) | refine below_set ?_ GE148.out | refine below_set ?_ GE157.out) | exact HB.out)) hb); clear BK148; clear BK157; clear HI152; clear HB; have BK148 := n0_; have BK157 := n1_; have HI152 := n2_; have HB := n3_; clear n0_ n1_ n2_ n3_; (try clear hb); (try clear hb2); (try clear hk); (try clear hi)) | ((with_reducible refine gate_callee (f := 81) rfl ?_); refine goesL_ (some 45) rfl rfl Try.func81 (by kernel_rfl) rfl #[.pointer (some ⟨g152, 0, none⟩)] rfl (by (try simp only [List.map_toArray, List.map_cons, List.map_nil]); first | done | rfl | (simp only [List.length_drop, List.length_take]; rfl)) ?_; (with_reducible refine (pack_Reader_Err.calls g152 x153000_17 x153001_17 x153002_17 t176 t177 t178 t179 w _ ?side1 ?side2 A47.out).mono ?_); (case side1 => repeat (first | (with_reducible first | exact HI152.out | apply IsS133.alloc | apply IsS133.drewN | apply IsS133.drew | apply IsS133.set_0 | apply IsS133.set_1 | apply IsS133.set_2 | refine IsS133.far ?_ NB152_148.out _ | refine IsS133.far ?_ NB152_157.out _) | exact HI152.out)); (case side2 => repeat (first | (with_reducible first | exact HB.out | apply below_alloc | apply pw_below_drewN | apply below_drew1 | refine below_set ?_ (IsS133.ge HI152.out) | refine below_set ?_ GE148.out | refine below_set ?_ GE157.out) | exact HB.out)); rintro e w70 ⟨rfl, hi, hb, hk⟩; refine ⟨_, rfl, ?_⟩; have n0_ := Aside0.mk (KeepBut.blk hk (g' := gb148) (o := .cells #[.int .u8 0, .int .i64 0, .string (⟨#[]⟩ : ByteArray), .int .i64 0] 90 (0, 0)) (by (with_reducible repeat (first | refine blk_drewN ?_ _ | refine blk_drew ?_ | refine blk_alloc ?_ _)); exact BK148.out) NB148_152.out (by simp)); have n1_ := Aside0.mk (KeepBut.blk hk (g' := gb157) (o := .cells #[.int .u8 t153, .int .i64 x158001_3, .string x158002_17, .int .i64 x158003_17] 90 (0, 0)) (by (with_reducible repeat (first | refine blk_drewN ?_ _ | refine blk_drew ?_ | refine blk_alloc ?_ _)); exact BK157.out) NB157_152.out (by simp)); have n2_ := Aside0.mk (hb); have n3_ := Aside0.mk (hi); clear BK148; clear BK157; clear HB; clear HI152; have BK148 := n0_; have BK157 := n1_; have HB := n2_; have HI152 := n3_; clear n0_ n1_ n2_ n3_; (try clear hb); (try clear hb2); (try clear hk); (try clear hi); have hnb71 := NB148_152.out; have hnc71 := NB152_148.out; have hcz72_0 : w70.cell? ⟨gb148, 0, none⟩ = some (.int .u8 0) := (blk_cell BK148.out 0).trans rfl; have hcz72_1 : w70.cell? ⟨gb148, 1, none⟩ = some (.int .i64 0) := (blk_cell BK148.out 1).trans rfl; have hcz72_2 : w70.cell? ⟨gb148, 2, none⟩ = some (.string (⟨#[]⟩ : ByteArray)) := (blk_cell BK148.out 2).trans rfl; have hcz72_3 : w70.cell? ⟨gb148, 3, none⟩ = some (.int .i64 0) := (blk_cell BK148.out 3).trans rfl; have hfz72_0 := blk_frozen BK148.out 0; have hfz72_1 := blk_frozen BK148.out 1; have hfz72_2 := blk_frozen BK148.out 2; have hfz72_3 := blk_frozen BK148.out 3))
       refine bodyPost_ret (results_ct rfl _ _ gb148 90 #[.int .u8 0, .int .i64 0, .string (⟨#[]⟩ : ByteArray), .int .i64 0] (0, 0) _ rfl (by (with_reducible repeat (first | refine blk_drewN ?_ _ | refine blk_drew ?_ | refine blk_alloc ?_ _)); refine blk_put (cs := #[.int .u8 0, .int .i64 0, .string (⟨#[]⟩ : ByteArray), .int .i64 0]) ?_ 3 _ rfl; (with_reducible repeat (first | refine blk_drewN ?_ _ | refine blk_drew ?_ | refine blk_alloc ?_ _)); refine blk_put (cs := #[.int .u8 0, .int .i64 0, .string (⟨#[]⟩ : ByteArray), .int .i64 0]) ?_ 2 _ rfl; (with_reducible repeat (first | refine blk_drewN ?_ _ | refine blk_drew ?_ | refine blk_alloc ?_ _)); refine blk_put (cs := #[.int .u8 0, .int .i64 0, .string (⟨#[]⟩ : ByteArray), .int .i64 0]) ?_ 1 _ rfl; (with_reducible repeat (first | refine blk_drewN ?_ _ | refine blk_drew ?_ | refine blk_alloc ?_ _)); refine blk_put (cs := #[.int .u8 0, .int .i64 0, .string (⟨#[]⟩ : ByteArray), .int .i64 0]) ?_ 0 _ rfl; (with_reducible repeat (first | refine blk_drewN ?_ _ | refine blk_drew ?_ | refine blk_alloc ?_ _)); exact BK148.out) Try.underlying90 rfl (by kernel_rfl)) rfl ?_
       exact ⟨by first | rfl | (simp [errW_none, errW_some] <;> rfl) | (simp [*, errW_none, errW_some] <;> rfl), by repeat (first | (with_reducible first | exact HB.out | apply below_alloc | apply pw_below_drewN | apply below_drew1 | refine below_set ?_ (IsS133.ge HI152.out) | refine below_set ?_ GE148.out | refine below_set ?_ GE157.out) | exact HB.out)⟩
     ·rw [if_neg c48] at H
      have c48b0 : (t176 == 0) = false := beq_eq_false_iff_ne.mpr c48
      have c48b1 : (t176 != 0) = true := bne_iff_ne.mpr c48
      simp only [Option.some.injEq, Prod.mk.injEq] at H
      obtain ⟨rfl, rfl, rfl, rfl, rfl⟩ := H
      have hnb73 := NB157_148.out
      have hnc73 := NB148_157.out
      have hnb74 := NB157_152.out
      have hnc74 := NB152_157.out
      have hcz75_0 : wc.cell? ⟨gb157, 0, none⟩ = some (.int .u8 t153) := (blk_cell BK157.out 0).trans rfl
      have hcz75_1 : wc.cell? ⟨gb157, 1, none⟩ = some (.int .i64 x158001_3) := (blk_cell BK157.out 1).trans rfl
      have hcz75_2 : wc.cell? ⟨gb157, 2, none⟩ = some (.string x158002_17) := (blk_cell BK157.out 2).trans rfl
      have hcz75_3 : wc.cell? ⟨gb157, 3, none⟩ = some (.int .i64 x158003_17) := (blk_cell BK157.out 3).trans rfl
      have hfz75_0 := blk_frozen BK157.out 0
      have hfz75_1 := blk_frozen BK157.out 1
      have hfz75_2 := blk_frozen BK157.out 2
      have hfz75_3 := blk_frozen BK157.out 3
      go_wp2_with (first | ((with_reducible refine gate_callee (f := 69) rfl ?_); refine goesL_ (some 41) rfl rfl Try.func69 (by kernel_rfl) rfl #[.agg #[.int .u8 t153, .int .i64 x158001_3, .string x158002_17, .int .i64 x158003_17]] rfl (by (try simp only [List.map_toArray, List.map_cons, List.map_nil]); first | done | rfl | (simp only [List.length_drop, List.length_take]; rfl)) ?_; (with_reducible refine (key_Make.calls kj17 t153 x158001_3 x158002_17 x158003_17 t174 t175 _ A46.out).mono ?_); rintro e w76 ⟨rfl, hb⟩; refine ⟨_, rfl, ?_⟩; have n0_ := Aside0.mk (blk_below (g := gb148) (o := .cells #[.int .u8 0, .int .i64 0, .string (⟨#[]⟩ : ByteArray), .int .i64 0] 90 (0, 0)) (by (with_reducible repeat (first | refine blk_drewN ?_ _ | refine blk_drew ?_ | refine blk_alloc ?_ _)); exact BK148.out) hb); have n1_ := Aside0.mk (blk_below (g := gb157) (o := .cells #[.int .u8 t153, .int .i64 x158001_3, .string x158002_17, .int .i64 x158003_17] 90 (0, 0)) (by (with_reducible repeat (first | refine blk_drewN ?_ _ | refine blk_drew ?_ | refine blk_alloc ?_ _)); exact BK157.out) hb); have n2_ := Aside0.mk (IsS133.below (by repeat (first | (with_reducible first | exact HI152.out | apply IsS133.alloc | apply IsS133.drewN | apply IsS133.drew | apply IsS133.set_0 | apply IsS133.set_1 | apply IsS133.set_2 | refine IsS133.far ?_ NB152_148.out _ | refine IsS133.far ?_ NB152_157.out _) | exact HI152.out)) hb); have n3_ := Aside0.mk (below_step (by repeat (first | (with_reducible first | exact HB.out | apply below_alloc | apply pw_below_drewN | apply below_drew1 | refine below_set ?_ (IsS133.ge HI152.out) | refine below_set ?_ GE148.out | refine below_set ?_ GE157.out) | exact HB.out)) hb); clear BK148; clear BK157; clear HI152; clear HB; have BK148 := n0_; have BK157 := n1_; have HI152 := n2_; have HB := n3_; clear n0_ n1_ n2_ n3_; (try clear hb); (try clear hb2); (try clear hk); (try clear hi)) | ((with_reducible refine gate_callee (f := 81) rfl ?_); refine goesL_ (some 45) rfl rfl Try.func81 (by kernel_rfl) rfl #[.pointer (some ⟨g152, 0, none⟩)] rfl (by (try simp only [List.map_toArray, List.map_cons, List.map_nil]); first | done | rfl | (simp only [List.length_drop, List.length_take]; rfl)) ?_; (with_reducible refine (pack_Reader_Err.calls g152 x153000_17 x153001_17 x153002_17 t176 t177 t178 t179 w _ ?side1 ?side2 A47.out).mono ?_); (case side1 => repeat (first | (with_reducible first | exact HI152.out | apply IsS133.alloc | apply IsS133.drewN | apply IsS133.drew | apply IsS133.set_0 | apply IsS133.set_1 | apply IsS133.set_2 | refine IsS133.far ?_ NB152_148.out _ | refine IsS133.far ?_ NB152_157.out _) | exact HI152.out)); (case side2 => repeat (first | (with_reducible first | exact HB.out | apply below_alloc | apply pw_below_drewN | apply below_drew1 | refine below_set ?_ (IsS133.ge HI152.out) | refine below_set ?_ GE148.out | refine below_set ?_ GE157.out) | exact HB.out)); rintro e w77 ⟨rfl, hi, hb, hk⟩; refine ⟨_, rfl, ?_⟩; have n0_ := Aside0.mk (KeepBut.blk hk (g' := gb148) (o := .cells #[.int .u8 0, .int .i64 0, .string (⟨#[]⟩ : ByteArray), .int .i64 0] 90 (0, 0)) (by (with_reducible repeat (first | refine blk_drewN ?_ _ | refine blk_drew ?_ | refine blk_alloc ?_ _)); exact BK148.out) NB148_152.out (by simp)); have n1_ := Aside0.mk (KeepBut.blk hk (g' := gb157) (o := .cells #[.int .u8 t153, .int .i64 x158001_3, .string x158002_17, .int .i64 x158003_17] 90 (0, 0)) (by (with_reducible repeat (first | refine blk_drewN ?_ _ | refine blk_drew ?_ | refine blk_alloc ?_ _)); exact BK157.out) NB157_152.out (by simp)); have n2_ := Aside0.mk (hb); have n3_ := Aside0.mk (hi); clear BK148; clear BK157; clear HB; clear HI152; have BK148 := n0_; have BK157 := n1_; have HB := n2_; have HI152 := n3_; clear n0_ n1_ n2_ n3_; (try clear hb); (try clear hb2); (try clear hk); (try clear hi); have hnb78 := NB148_152.out; have hnc78 := NB152_148.out; have hcz79_0 : w77.cell? ⟨gb148, 0, none⟩ = some (.int .u8 0) := (blk_cell BK148.out 0).trans rfl; have hcz79_1 : w77.cell? ⟨gb148, 1, none⟩ = some (.int .i64 0) := (blk_cell BK148.out 1).trans rfl; have hcz79_2 : w77.cell? ⟨gb148, 2, none⟩ = some (.string (⟨#[]⟩ : ByteArray)) := (blk_cell BK148.out 2).trans rfl; have hcz79_3 : w77.cell? ⟨gb148, 3, none⟩ = some (.int .i64 0) := (blk_cell BK148.out 3).trans rfl; have hfz79_0 := blk_frozen BK148.out 0; have hfz79_1 := blk_frozen BK148.out 1; have hfz79_2 := blk_frozen BK148.out 2; have hfz79_3 := blk_frozen BK148.out 3))
      refine bodyPost_ret (results_ct rfl _ _ gb148 90 #[.int .u8 0, .int .i64 0, .string (⟨#[]⟩ : ByteArray), .int .i64 0] (0, 0) _ rfl (by (with_reducible repeat (first | refine blk_drewN ?_ _ | refine blk_drew ?_ | refine blk_alloc ?_ _)); refine blk_put (cs := #[.int .u8 0, .int .i64 0, .string (⟨#[]⟩ : ByteArray), .int .i64 0]) ?_ 3 _ rfl; (with_reducible repeat (first | refine blk_drewN ?_ _ | refine blk_drew ?_ | refine blk_alloc ?_ _)); refine blk_put (cs := #[.int .u8 0, .int .i64 0, .string (⟨#[]⟩ : ByteArray), .int .i64 0]) ?_ 2 _ rfl; (with_reducible repeat (first | refine blk_drewN ?_ _ | refine blk_drew ?_ | refine blk_alloc ?_ _)); refine blk_put (cs := #[.int .u8 0, .int .i64 0, .string (⟨#[]⟩ : ByteArray), .int .i64 0]) ?_ 1 _ rfl; (with_reducible repeat (first | refine blk_drewN ?_ _ | refine blk_drew ?_ | refine blk_alloc ?_ _)); refine blk_put (cs := #[.int .u8 0, .int .i64 0, .string (⟨#[]⟩ : ByteArray), .int .i64 0]) ?_ 0 _ rfl; (with_reducible repeat (first | refine blk_drewN ?_ _ | refine blk_drew ?_ | refine blk_alloc ?_ _)); exact BK148.out) Try.underlying90 rfl (by kernel_rfl)) rfl ?_
      exact ⟨by first | rfl | (simp [errW_none, errW_some] <;> rfl) | (simp [*, errW_none, errW_some] <;> rfl), by repeat (first | (with_reducible first | exact HB.out | apply below_alloc | apply pw_below_drewN | apply below_drew1 | refine below_set ?_ (IsS133.ge HI152.out) | refine below_set ?_ GE148.out | refine below_set ?_ GE157.out) | exact HB.out)⟩

end Go.Proofs.Ytcocddpknkklhaa.PA
