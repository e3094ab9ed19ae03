-- WRITTEN BY a program of this session (pp.sh)
import Derived.Test.YtppkdmocbhodpaaPAx0
import Derived.Test.YtppkdmocbhodpaaPAx13
import Derived.Test.YtppkdmocbhodpaaPAx14
import Derived.Test.YtppkdmocbhodpaaPAx15
import Derived.Test.YtppkdmocbhodpaaPAx17
import Derived.Test.YtppkdmocbhodpaaPAx18
namespace Go.Proofs.Ytppkdmocbhodpaa.PA
open Go.RowKit Go.Proofs.YtppkdmocbhodpaaW.PrintWords Go.Proofs.YtppkdmocbhodpaaW.PrintLast Go.Proofs.YtppkdmocbhodpaaW.PrintMore Go.Proofs.Ytppkdmocbhodpaa.Plain
attribute [local go_sem] max2_int min2_int max_two min_two max_three min_three max_four min_four   -- for this text's walks alone
set_option linter.unusedVariables false
set_option linter.unusedSimpArgs false

/-! ### coppiceref14_Decode: function 16 -/
mutual
def coppiceref14_Decode.j0 : Nat → Int → Int → Int → Int → Int → ByteArray → ByteArray → Int → Option (Int × Int × Int × Int × Int × ByteArray × Int)
 | 0, _, _, _, _, _, _, _, _ => none
 | k + 1, x5, x6, x7, x8, x9, x10, x191000, x191001 => if x5 = 3 then ((coppiceref02_Reader_Text.f k x191000 x191001 100).bind fun bt206 => (coppiceref14_Decode.j1 k x5 x6 x7 x8 x9 bt206.1 bt206.2.1 bt206.2.2)) else (coppiceref14_Decode.j1 k x5 x6 x7 x8 x9 x10 x191000 x191001)
def coppiceref14_Decode.j1 : Nat → Int → Int → Int → Int → Int → ByteArray → ByteArray → Int → Option (Int × Int × Int × Int × Int × ByteArray × Int)
 | 0, _, _, _, _, _, _, _, _ => none
 | k + 1, x5, x6, x7, x8, x9, x10, x191000, x191001 => (coppiceref02_Reader_End.f x191000 x191001).bind fun bt209 => (if bt209.1 = 0 then (if x6 > 4095 then (coppiceref14_Decode.j2 k x5 x6 x7 x8 x9 x10 true) else (if x8 > 1099511627776 then (coppiceref14_Decode.j2 k x5 x6 x7 x8 x9 x10 true) else (coppiceref14_Decode.j2 k x5 x6 x7 x8 x9 x10 (decide (x9 > 4611686018427387904))))) else (coppiceref14_Decode.j2 k x5 x6 x7 x8 x9 x10 true))
def coppiceref14_Decode.j2 : Nat → Int → Int → Int → Int → Int → ByteArray → Bool → Option (Int × Int × Int × Int × Int × ByteArray × Int)
 | 0, _, _, _, _, _, _, _ => none
 | k + 1, x5, x6, x7, x8, x9, x10, x37 => if x37 = true then (some (0, 0, 0, 0, 0, (⟨#[]⟩ : ByteArray), 21)) else ((coppiceref14_Right.f k (wrap64 (x5)) (wrap64 (x6)) (wrap64 (x7)) (wrap64 (x8)) (wrap64 (x9)) x10).bind fun t213 => (if t213 = true then (some (wrap64 (x5), wrap64 (x6), wrap64 (x7), wrap64 (x8), wrap64 (x9), x10, 0)) else (some (0, 0, 0, 0, 0, (⟨#[]⟩ : ByteArray), 21))))
end
def coppiceref14_Decode.f (k : Nat) (a0 : ByteArray) : Option (Int × Int × Int × Int × Int × ByteArray × Int) := (coppiceref02_Reader_Byte.f a0 0).bind fun bt191 => ((coppiceref02_Reader_Short.f k bt191.2.1 bt191.2.2).bind fun bt194 => ((coppiceref02_Reader_Fixed.f k bt194.2.1 bt194.2.2).bind fun bt197 => ((coppiceref02_Reader_Short.f k bt197.2.1 bt197.2.2).bind fun bt200 => (if bt191.1 = 1 then ((coppiceref02_Reader_Short.f k bt200.2.1 bt200.2.2).bind fun bt203 => (coppiceref14_Decode.j0 k bt191.1 bt194.1 bt197.1 bt200.1 bt203.1 (⟨#[]⟩ : ByteArray) bt203.2.1 bt203.2.2)) else (coppiceref14_Decode.j0 k bt191.1 bt194.1 bt197.1 bt200.1 0 (⟨#[]⟩ : ByteArray) bt200.2.1 bt200.2.2)))))
theorem coppiceref14_Decode.mono_l : ∀ k, (∀ y0 y1 y2 y3 y4 y5 y6 y7, LeO (coppiceref14_Decode.j0 k y0 y1 y2 y3 y4 y5 y6 y7) (coppiceref14_Decode.j0 (k + 1) y0 y1 y2 y3 y4 y5 y6 y7)) ∧ (∀ y0 y1 y2 y3 y4 y5 y6 y7, LeO (coppiceref14_Decode.j1 k y0 y1 y2 y3 y4 y5 y6 y7) (coppiceref14_Decode.j1 (k + 1) y0 y1 y2 y3 y4 y5 y6 y7)) ∧ (∀ y0 y1 y2 y3 y4 y5 y6, LeO (coppiceref14_Decode.j2 k y0 y1 y2 y3 y4 y5 y6) (coppiceref14_Decode.j2 (k + 1) y0 y1 y2 y3 y4 y5 y6))
 | 0 => ⟨fun _ _ _ _ _ _ _ _ r h => by simp [coppiceref14_Decode.j0] at h, fun _ _ _ _ _ _ _ _ r h => by simp [coppiceref14_Decode.j1] at h, fun _ _ _ _ _ _ _ r h => by simp [coppiceref14_Decode.j2] at h⟩
 | k + 1 => by
  obtain ⟨ih0, ih1, ih2⟩ := coppiceref14_Decode.mono_l k
  refine ⟨?_, ?_, ?_⟩
  ·intro y0 y1 y2 y3 y4 y5 y6 y7
   unfold coppiceref14_Decode.j0
   repeat' first
   | (with_reducible exact ih0 _ _ _ _ _ _ _ _)
   | (with_reducible exact ih1 _ _ _ _ _ _ _ _)
   | (with_reducible exact ih2 _ _ _ _ _ _ _)
   | (with_reducible exact coppiceref02_Reader_Fixed.mono _ _ _)
   | (with_reducible exact coppiceref02_Reader_Short.mono _ _ _)
   | (with_reducible exact coppiceref02_Reader_Text.mono _ _ _ _)
   | (with_reducible exact coppiceref14_Right.mono _ _ _ _ _ _ _)
   | (with_reducible exact LeO.refl _)
   | (with_reducible exact LeO.none _)
   | (with_reducible refine LeO.ite ?_ ?_)
   | (with_reducible refine LeO.bind ?_ (fun _ => ?_))
   | exact ih0 _ _ _ _ _ _ _ _
   | exact ih1 _ _ _ _ _ _ _ _
   | exact ih2 _ _ _ _ _ _ _
   | exact coppiceref02_Reader_Fixed.mono _ _ _
   | exact coppiceref02_Reader_Short.mono _ _ _
   | exact coppiceref02_Reader_Text.mono _ _ _ _
   | exact coppiceref14_Right.mono _ _ _ _ _ _ _
   | exact LeO.none _
   | refine LeO.ite ?_ ?_
   | refine LeO.bind ?_ (fun _ => ?_)
  ·intro y0 y1 y2 y3 y4 y5 y6 y7
   unfold coppiceref14_Decode.j1
   repeat' first
   | (with_reducible exact ih0 _ _ _ _ _ _ _ _)
   | (with_reducible exact ih1 _ _ _ _ _ _ _ _)
   | (with_reducible exact ih2 _ _ _ _ _ _ _)
   | (with_reducible exact coppiceref02_Reader_Fixed.mono _ _ _)
   | (with_reducible exact coppiceref02_Reader_Short.mono _ _ _)
   | (with_reducible exact coppiceref02_Reader_Text.mono _ _ _ _)
   | (with_reducible exact coppiceref14_Right.mono _ _ _ _ _ _ _)
   | (with_reducible exact LeO.refl _)
   | (with_reducible exact LeO.none _)
   | (with_reducible refine LeO.ite ?_ ?_)
   | (with_reducible refine LeO.bind ?_ (fun _ => ?_))
   | exact ih0 _ _ _ _ _ _ _ _
   | exact ih1 _ _ _ _ _ _ _ _
   | exact ih2 _ _ _ _ _ _ _
   | exact coppiceref02_Reader_Fixed.mono _ _ _
   | exact coppiceref02_Reader_Short.mono _ _ _
   | exact coppiceref02_Reader_Text.mono _ _ _ _
   | exact coppiceref14_Right.mono _ _ _ _ _ _ _
   | exact LeO.none _
   | refine LeO.ite ?_ ?_
   | refine LeO.bind ?_ (fun _ => ?_)
  ·intro y0 y1 y2 y3 y4 y5 y6
   unfold coppiceref14_Decode.j2
   repeat' first
   | (with_reducible exact ih0 _ _ _ _ _ _ _ _)
   | (with_reducible exact ih1 _ _ _ _ _ _ _ _)
   | (with_reducible exact ih2 _ _ _ _ _ _ _)
   | (with_reducible exact coppiceref02_Reader_Fixed.mono _ _ _)
   | (with_reducible exact coppiceref02_Reader_Short.mono _ _ _)
   | (with_reducible exact coppiceref02_Reader_Text.mono _ _ _ _)
   | (with_reducible exact coppiceref14_Right.mono _ _ _ _ _ _ _)
   | (with_reducible exact LeO.refl _)
   | (with_reducible exact LeO.none _)
   | (with_reducible refine LeO.ite ?_ ?_)
   | (with_reducible refine LeO.bind ?_ (fun _ => ?_))
   | exact ih0 _ _ _ _ _ _ _ _
   | exact ih1 _ _ _ _ _ _ _ _
   | exact ih2 _ _ _ _ _ _ _
   | exact coppiceref02_Reader_Fixed.mono _ _ _
   | exact coppiceref02_Reader_Short.mono _ _ _
   | exact coppiceref02_Reader_Text.mono _ _ _ _
   | exact coppiceref14_Right.mono _ _ _ _ _ _ _
   | exact LeO.none _
   | refine LeO.ite ?_ ?_
   | refine LeO.bind ?_ (fun _ => ?_)
theorem coppiceref14_Decode.mono : ∀ a0 k, LeO (coppiceref14_Decode.f k a0) (coppiceref14_Decode.f (k + 1) a0) := by
 intro a0 k
 obtain ⟨ih0, ih1, ih2⟩ := coppiceref14_Decode.mono_l k
 unfold coppiceref14_Decode.f
 repeat' first
   | (with_reducible exact ih0 _ _ _ _ _ _ _ _)
   | (with_reducible exact ih1 _ _ _ _ _ _ _ _)
   | (with_reducible exact ih2 _ _ _ _ _ _ _)
   | (with_reducible exact coppiceref02_Reader_Fixed.mono _ _ _)
   | (with_reducible exact coppiceref02_Reader_Short.mono _ _ _)
   | (with_reducible exact coppiceref02_Reader_Text.mono _ _ _ _)
   | (with_reducible exact coppiceref14_Right.mono _ _ _ _ _ _ _)
   | (with_reducible exact LeO.refl _)
   | (with_reducible exact LeO.none _)
   | (with_reducible refine LeO.ite ?_ ?_)
   | (with_reducible refine LeO.bind ?_ (fun _ => ?_))
   | exact ih0 _ _ _ _ _ _ _ _
   | exact ih1 _ _ _ _ _ _ _ _
   | exact ih2 _ _ _ _ _ _ _
   | exact coppiceref02_Reader_Fixed.mono _ _ _
   | exact coppiceref02_Reader_Short.mono _ _ _
   | exact coppiceref02_Reader_Text.mono _ _ _ _
   | exact coppiceref14_Right.mono _ _ _ _ _ _ _
   | exact LeO.none _
   | refine LeO.ite ?_ ?_
   | refine LeO.bind ?_ (fun _ => ?_)
set_option maxHeartbeats 8000000 in
set_option maxRecDepth 100000 in
theorem coppiceref14_Decode.calls (k : Nat) (a0 : ByteArray) (r1 : Int) (r2 : Int) (r3 : Int) (r4 : Int) (r5 : Int) (r6 : ByteArray) (r7 : Int) (w : World) (h : coppiceref14_Decode.f k a0 = some (r1, r2, r3, r4, r5, r6, r7)) :
  Calls Try.prog 16 #[.string a0] w fun e w' => e = .returned (.tuple #[.agg #[.int .i64 r1, .int .i64 r2, .int .i64 r3, .int .i64 r4, .int .i64 r5, .string r6], .int .i64 r7]) ∧ Below w.heap.size w w' := by
 have hu23 := Try.underlying23
 have hu54 := Try.underlying54
 have HB := Aside0.mk (Below.refl w.heap.size w)
 have H : ((coppiceref02_Reader_Byte.f a0 0).bind fun bt191 => ((coppiceref02_Reader_Short.f k bt191.2.1 bt191.2.2).bind fun bt194 => ((coppiceref02_Reader_Fixed.f k bt194.2.1 bt194.2.2).bind fun bt197 => ((coppiceref02_Reader_Short.f k bt197.2.1 bt197.2.2).bind fun bt200 => (if bt191.1 = 1 then ((coppiceref02_Reader_Short.f k bt200.2.1 bt200.2.2).bind fun bt203 => (coppiceref14_Decode.j0 k bt191.1 bt194.1 bt197.1 bt200.1 bt203.1 (⟨#[]⟩ : ByteArray) bt203.2.1 bt203.2.2)) else (coppiceref14_Decode.j0 k bt191.1 bt194.1 bt197.1 bt200.1 0 (⟨#[]⟩ : ByteArray) bt200.2.1 bt200.2.2)))))) = some (r1, r2, r3, r4, r5, r6, r7) := h
 clear h
 replace H := Option.bind_eq_some_iff.mp H
 obtain ⟨⟨t191, t192, t193⟩, A20, H⟩ := H
 replace H : ((coppiceref02_Reader_Short.f k t192 t193).bind fun bt194 => ((coppiceref02_Reader_Fixed.f k bt194.2.1 bt194.2.2).bind fun bt197 => ((coppiceref02_Reader_Short.f k bt197.2.1 bt197.2.2).bind fun bt200 => (if t191 = 1 then ((coppiceref02_Reader_Short.f k bt200.2.1 bt200.2.2).bind fun bt203 => (coppiceref14_Decode.j0 k t191 bt194.1 bt197.1 bt200.1 bt203.1 (⟨#[]⟩ : ByteArray) bt203.2.1 bt203.2.2)) else (coppiceref14_Decode.j0 k t191 bt194.1 bt197.1 bt200.1 0 (⟨#[]⟩ : ByteArray) bt200.2.1 bt200.2.2))))) = some (r1, r2, r3, r4, r5, r6, r7) := H
 have A2 := Aside0.mk A20
 clear A20
 replace H := Option.bind_eq_some_iff.mp H
 obtain ⟨⟨t194, t195, t196⟩, A30, H⟩ := H
 replace H : ((coppiceref02_Reader_Fixed.f k t195 t196).bind fun bt197 => ((coppiceref02_Reader_Short.f k bt197.2.1 bt197.2.2).bind fun bt200 => (if t191 = 1 then ((coppiceref02_Reader_Short.f k bt200.2.1 bt200.2.2).bind fun bt203 => (coppiceref14_Decode.j0 k t191 t194 bt197.1 bt200.1 bt203.1 (⟨#[]⟩ : ByteArray) bt203.2.1 bt203.2.2)) else (coppiceref14_Decode.j0 k t191 t194 bt197.1 bt200.1 0 (⟨#[]⟩ : ByteArray) bt200.2.1 bt200.2.2)))) = some (r1, r2, r3, r4, r5, r6, r7) := H
 have A3 := Aside0.mk A30
 clear A30
 replace H := Option.bind_eq_some_iff.mp H
 obtain ⟨⟨t197, t198, t199⟩, A40, H⟩ := H
 replace H : ((coppiceref02_Reader_Short.f k t198 t199).bind fun bt200 => (if t191 = 1 then ((coppiceref02_Reader_Short.f k bt200.2.1 bt200.2.2).bind fun bt203 => (coppiceref14_Decode.j0 k t191 t194 t197 bt200.1 bt203.1 (⟨#[]⟩ : ByteArray) bt203.2.1 bt203.2.2)) else (coppiceref14_Decode.j0 k t191 t194 t197 bt200.1 0 (⟨#[]⟩ : ByteArray) bt200.2.1 bt200.2.2))) = some (r1, r2, r3, r4, r5, r6, r7) := H
 have A4 := Aside0.mk A40
 clear A40
 replace H := Option.bind_eq_some_iff.mp H
 obtain ⟨⟨t200, t201, t202⟩, A50, H⟩ := H
 replace H : (if t191 = 1 then ((coppiceref02_Reader_Short.f k t201 t202).bind fun bt203 => (coppiceref14_Decode.j0 k t191 t194 t197 t200 bt203.1 (⟨#[]⟩ : ByteArray) bt203.2.1 bt203.2.2)) else (coppiceref14_Decode.j0 k t191 t194 t197 t200 0 (⟨#[]⟩ : ByteArray) t201 t202)) = some (r1, r2, r3, r4, r5, r6, r7) := H
 have A5 := Aside0.mk A50
 clear A50
 have HC6 := Aside0.mk H
 clear H
 go_enter Try.func16, Try.ntmps16
 go_upto_if 19 with (first | ((with_reducible refine gate_dst (N := 2) rfl ?_); refine box_event ?hg (N := 2) ?hd (cs := #[.int .i64 0, .int .i64 0, .int .i64 0, .int .i64 0, .int .i64 0, .string (⟨#[]⟩ : ByteArray)]) (t := 23) ?hr ?_; (case hd => rfl); (case hg => rfl); (case hr => first | (go_simp; done) | (go_simp; rfl)); intro gb189 hg w7 hbox hb; have n0_ := Aside0.mk (below_step (by repeat (first | (with_reducible first | exact HB.out | apply below_alloc | apply pw_below_drewN | apply below_drew1) | exact HB.out)) hb); have n1_ := Aside0.mk (hbox); have n2_ := Aside0.mk ((by rw [hg]; exact (below_size (by repeat (first | (with_reducible first | exact HB.out | apply below_alloc | apply pw_below_drewN | apply below_drew1) | exact HB.out))) : w.heap.size ≤ gb189)); have n3_ := Aside0.mk ((by rw [hg]; exact (below_size (by repeat (first | (with_reducible first | exact HB.out | apply below_alloc | apply pw_below_drewN | apply below_drew1) | exact HB.out))) : w.heap.size ≤ gb189)); clear HB; have HB := n0_; have BK189 := n1_; have GW189 := n2_; have GE189 := n3_; clear n0_ n1_ n2_ n3_; clear hb hbox hg) | ((with_reducible refine gate_dst (N := 4) rfl ?_); refine box_event ?hg (N := 4) ?hd (cs := #[.string (⟨#[]⟩ : ByteArray), .int .i64 0]) (t := 54) ?hr ?_; (case hd => rfl); (case hg => rfl); (case hr => first | (go_simp; done) | (go_simp; rfl)); intro gb190 hg w8 hbox hb; have n0_ := Aside0.mk (blk_below (g := gb189) (o := .cells #[.int .i64 0, .int .i64 0, .int .i64 0, .int .i64 0, .int .i64 0, .string (⟨#[]⟩ : ByteArray)] 23 (0, 0)) (by (with_reducible repeat (first | refine blk_drewN ?_ _ | refine blk_drew ?_ | refine blk_alloc ?_ _)); exact BK189.out) hb); have n1_ := Aside0.mk (below_step (by repeat (first | (with_reducible first | exact HB.out | apply below_alloc | apply pw_below_drewN | apply below_drew1 | refine below_set ?_ GE189.out) | exact HB.out)) hb); have n2_ := Aside0.mk ((show IsS54 w _ gb190 (⟨#[]⟩ : ByteArray) 0 from ⟨hbox, (by rw [hg]; exact (below_size (by repeat (first | (with_reducible first | exact HB.out | apply below_alloc | apply pw_below_drewN | apply below_drew1 | refine below_set ?_ GE189.out) | exact HB.out))) : w.heap.size ≤ gb190)⟩)); have n3_ := Aside0.mk ((by rw [hg]; exact (below_size (by repeat (first | (with_reducible first | exact HB.out | apply below_alloc | apply pw_below_drewN | apply below_drew1 | refine below_set ?_ GE189.out) | exact HB.out))) : w.heap.size ≤ gb190)); have n4_ := Aside0.mk ((by rw [hg]; exact (below_size (by repeat (first | (with_reducible first | exact HB.out | apply below_alloc | apply pw_below_drewN | apply below_drew1 | refine below_set ?_ GE189.out) | exact HB.out))) : w.heap.size ≤ gb190)); have n5_ := Aside0.mk ((by rw [hg]; exact Nat.ne_of_lt (blk_lt (g := gb189) (o := .cells #[.int .i64 0, .int .i64 0, .int .i64 0, .int .i64 0, .int .i64 0, .string (⟨#[]⟩ : ByteArray)] 23 (0, 0)) (by (with_reducible repeat (first | refine blk_drewN ?_ _ | refine blk_drew ?_ | refine blk_alloc ?_ _)); exact BK189.out)) : gb189 ≠ gb190)); have n6_ := Aside0.mk ((by rw [hg]; exact Nat.ne_of_gt (blk_lt (g := gb189) (o := .cells #[.int .i64 0, .int .i64 0, .int .i64 0, .int .i64 0, .int .i64 0, .string (⟨#[]⟩ : ByteArray)] 23 (0, 0)) (by (with_reducible repeat (first | refine blk_drewN ?_ _ | refine blk_drew ?_ | refine blk_alloc ?_ _)); exact BK189.out)) : gb190 ≠ gb189)); clear BK189; clear HB; have BK189 := n0_; have HB := n1_; have HI190 := n2_; have GW190 := n3_; have GE190 := n4_; have NB189_190 := n5_; have NB190_189 := n6_; clear n0_ n1_ n2_ n3_ n4_ n5_ n6_; clear hb hbox hg; obtain ⟨HGz9, hgz9⟩ := HI190.out; have hcz9_0 := cellS54_0 HGz9; have hcz9_1 := cellS54_1 HGz9; have hfz9_0 := blk_frozen HGz9 0; have hfz9_1 := blk_frozen HGz9 1; clear HGz9 hgz9) | ((with_reducible refine gate_callee (f := 33) rfl ?_); refine goesL_ (some 14) rfl rfl Try.func33 (by kernel_rfl) rfl #[.pointer (some ⟨gb190, 0, none⟩)] rfl (by (try simp only [List.map_toArray, List.map_cons, List.map_nil]); first | done | rfl | (simp only [List.length_drop, List.length_take]; rfl)) ?_; (with_reducible refine (coppiceref02_Reader_Byte.calls gb190 a0 0 t191 t192 t193 w _ ?side1 ?side2 A2.out).mono ?_); (case side1 => repeat (first | (with_reducible first | exact HI190.out | apply IsS54.alloc | apply IsS54.drewN | apply IsS54.drew | apply IsS54.set_0 | apply IsS54.set_1 | refine IsS54.far ?_ NB190_189.out _) | exact HI190.out)); (case side2 => repeat (first | (with_reducible first | exact HB.out | apply below_alloc | apply pw_below_drewN | apply below_drew1 | refine below_set ?_ (IsS54.ge HI190.out) | refine below_set ?_ GE189.out) | exact HB.out)); rintro e w10 ⟨rfl, hi, hb, hk⟩; refine ⟨_, rfl, ?_⟩; have n0_ := Aside0.mk (KeepBut.blk hk (g' := gb189) (o := .cells #[.int .i64 0, .int .i64 0, .int .i64 0, .int .i64 0, .int .i64 0, .string (⟨#[]⟩ : ByteArray)] 23 (0, 0)) (by (with_reducible repeat (first | refine blk_drewN ?_ _ | refine blk_drew ?_ | refine blk_alloc ?_ _)); refine blk_far ?_ NB189_190.out _; (with_reducible repeat (first | refine blk_drewN ?_ _ | refine blk_drew ?_ | refine blk_alloc ?_ _)); refine blk_far ?_ NB189_190.out _; (with_reducible repeat (first | refine blk_drewN ?_ _ | refine blk_drew ?_ | refine blk_alloc ?_ _)); exact BK189.out) NB189_190.out (by simp)); have n1_ := Aside0.mk (hb); have n2_ := Aside0.mk (hi); clear BK189; clear HB; clear HI190; have BK189 := n0_; have HB := n1_; have HI190 := n2_; clear n0_ n1_ n2_; (try clear hb); (try clear hb2); (try clear hk); (try clear hi)) | ((with_reducible refine gate_callee (f := 34) rfl ?_); refine goesL_ (some 15) rfl rfl Try.func34 (by kernel_rfl) rfl #[.pointer (some ⟨gb190, 0, none⟩)] rfl (by (try simp only [List.map_toArray, List.map_cons, List.map_nil]); first | done | rfl | (simp only [List.length_drop, List.length_take]; rfl)) ?_; (with_reducible refine (coppiceref02_Reader_Short.calls k gb190 t192 t193 t194 t195 t196 w _ ?side1 ?side2 A3.out).mono ?_); (case side1 => repeat (first | (with_reducible first | exact HI190.out | apply IsS54.alloc | apply IsS54.drewN | apply IsS54.drew | apply IsS54.set_0 | apply IsS54.set_1 | refine IsS54.far ?_ NB190_189.out _) | exact HI190.out)); (case side2 => repeat (first | (with_reducible first | exact HB.out | apply below_alloc | apply pw_below_drewN | apply below_drew1 | refine below_set ?_ (IsS54.ge HI190.out) | refine below_set ?_ GE189.out) | exact HB.out)); rintro e w11 ⟨rfl, hi, hb, hk⟩; refine ⟨_, rfl, ?_⟩; have n0_ := Aside0.mk (KeepBut.blk hk (g' := gb189) (o := .cells #[.int .i64 0, .int .i64 0, .int .i64 0, .int .i64 0, .int .i64 0, .string (⟨#[]⟩ : ByteArray)] 23 (0, 0)) (by (with_reducible repeat (first | refine blk_drewN ?_ _ | refine blk_drew ?_ | refine blk_alloc ?_ _)); exact BK189.out) NB189_190.out (by simp)); have n1_ := Aside0.mk (hb); have n2_ := Aside0.mk (hi); clear BK189; clear HB; clear HI190; have BK189 := n0_; have HB := n1_; have HI190 := n2_; clear n0_ n1_ n2_; (try clear hb); (try clear hb2); (try clear hk); (try clear hi)) | ((with_reducible refine gate_callee (f := 28) rfl ?_); refine goesL_ (some 16) rfl rfl Try.func28 (by kernel_rfl) rfl #[.pointer (some ⟨gb190, 0, none⟩)] rfl (by (try simp only [List.map_toArray, List.map_cons, List.map_nil]); first | done | rfl | (simp only [List.length_drop, List.length_take]; rfl)) ?_; (with_reducible refine (coppiceref02_Reader_Fixed.calls k gb190 t195 t196 t197 t198 t199 w _ ?side1 ?side2 A4.out).mono ?_); (case side1 => repeat (first | (with_reducible first | exact HI190.out | apply IsS54.alloc | apply IsS54.drewN | apply IsS54.drew | apply IsS54.set_0 | apply IsS54.set_1 | refine IsS54.far ?_ NB190_189.out _) | exact HI190.out)); (case side2 => repeat (first | (with_reducible first | exact HB.out | apply below_alloc | apply pw_below_drewN | apply below_drew1 | refine below_set ?_ (IsS54.ge HI190.out) | refine below_set ?_ GE189.out) | exact HB.out)); rintro e w12 ⟨rfl, hi, hb, hk⟩; refine ⟨_, rfl, ?_⟩; have n0_ := Aside0.mk (KeepBut.blk hk (g' := gb189) (o := .cells #[.int .i64 0, .int .i64 0, .int .i64 0, .int .i64 0, .int .i64 0, .string (⟨#[]⟩ : ByteArray)] 23 (0, 0)) (by (with_reducible repeat (first | refine blk_drewN ?_ _ | refine blk_drew ?_ | refine blk_alloc ?_ _)); exact BK189.out) NB189_190.out (by simp)); have n1_ := Aside0.mk (hb); have n2_ := Aside0.mk (hi); clear BK189; clear HB; clear HI190; have BK189 := n0_; have HB := n1_; have HI190 := n2_; clear n0_ n1_ n2_; (try clear hb); (try clear hb2); (try clear hk); (try clear hi)) | ((with_reducible refine gate_callee (f := 34) rfl ?_); refine goesL_ (some 17) rfl rfl Try.func34 (by kernel_rfl) rfl #[.pointer (some ⟨gb190, 0, none⟩)] rfl (by (try simp only [List.map_toArray, List.map_cons, List.map_nil]); first | done | rfl | (simp only [List.length_drop, List.length_take]; rfl)) ?_; (with_reducible refine (coppiceref02_Reader_Short.calls k gb190 t198 t199 t200 t201 t202 w _ ?side1 ?side2 A5.out).mono ?_); (case side1 => repeat (first | (with_reducible first | exact HI190.out | apply IsS54.alloc | apply IsS54.drewN | apply IsS54.drew | apply IsS54.set_0 | apply IsS54.set_1 | refine IsS54.far ?_ NB190_189.out _) | exact HI190.out)); (case side2 => repeat (first | (with_reducible first | exact HB.out | apply below_alloc | apply pw_below_drewN | apply below_drew1 | refine below_set ?_ (IsS54.ge HI190.out) | refine below_set ?_ GE189.out) | exact HB.out)); rintro e w13 ⟨rfl, hi, hb, hk⟩; refine ⟨_, rfl, ?_⟩; have n0_ := Aside0.mk (KeepBut.blk hk (g' := gb189) (o := .cells #[.int .i64 0, .int .i64 0, .int .i64 0, .int .i64 0, .int .i64 0, .string (⟨#[]⟩ : ByteArray)] 23 (0, 0)) (by (with_reducible repeat (first | refine blk_drewN ?_ _ | refine blk_drew ?_ | refine blk_alloc ?_ _)); exact BK189.out) NB189_190.out (by simp)); have n1_ := Aside0.mk (hb); have n2_ := Aside0.mk (hi); clear BK189; clear HB; clear HI190; have BK189 := n0_; have HB := n1_; have HI190 := n2_; clear n0_ n1_ n2_; (try clear hb); (try clear hb2); (try clear hk); (try clear hi)))
 (try simp only [Act.put, List.setIfInBounds_toArray, List.set_cons_zero, List.set_cons_succ])
 go_cut [9] (fun v9 wc => ∃ (kq : Nat) (x9_5 : Int) (x191000_5 : ByteArray) (x191001_5 : Int), v9 = .int .u64 x9_5 ∧ Aside0 (coppiceref14_Decode.j0 kq t191 t194 t197 t200 x9_5 (⟨#[]⟩ : ByteArray) x191000_5 x191001_5 = some (r1, r2, r3, r4, r5, r6, r7)) ∧ Aside0 (kq ≤ k) ∧ Aside0 (wc.heap[gb189]? = some (.cells #[.int .i64 0, .int .i64 0, .int .i64 0, .int .i64 0, .int .i64 0, .string (⟨#[]⟩ : ByteArray)] 23 (0, 0))) ∧ Aside0 (IsS54 w wc gb190 x191000_5 x191001_5) ∧ Aside0 (Below w.heap.size w wc))
 case first =>
  have H := HC6.out
  clear HC6
  by_cases c14 : t191 = 1
  ·rw [if_pos c14] at H
   have c14b0 : (t191 == 1) = true := beq_iff_eq.mpr c14
   have c14b1 : (t191 != 1) = false := bne_eq_false_iff_eq.mpr c14
   clear c14
   (first | rw [c14b0] | (simp only [i64_w, i32_w]; rw [c14b0]) | skip)
   replace H := Option.bind_eq_some_iff.mp H
   obtain ⟨⟨t203, t204, t205⟩, A150, H⟩ := H
   replace H : (coppiceref14_Decode.j0 k t191 t194 t197 t200 t203 (⟨#[]⟩ : ByteArray) t204 t205) = some (r1, r2, r3, r4, r5, r6, r7) := H
   have A15 := Aside0.mk A150
   clear A150
   have H' := Aside0.mk H
   clear H
   go_wp2_with (first | ((with_reducible refine gate_callee (f := 34) rfl ?_); refine goesL_ (some 20) rfl rfl Try.func34 (by kernel_rfl) rfl #[.pointer (some ⟨gb190, 0, none⟩)] rfl (by (try simp only [List.map_toArray, List.map_cons, List.map_nil]); first | done | rfl | (simp only [List.length_drop, List.length_take]; rfl)) ?_; (with_reducible refine (coppiceref02_Reader_Short.calls k gb190 t201 t202 t203 t204 t205 w _ ?side1 ?side2 A15.out).mono ?_); (case side1 => repeat (first | (with_reducible first | exact HI190.out | apply IsS54.alloc | apply IsS54.drewN | apply IsS54.drew | apply IsS54.set_0 | apply IsS54.set_1 | refine IsS54.far ?_ NB190_189.out _) | exact HI190.out)); (case side2 => repeat (first | (with_reducible first | exact HB.out | apply below_alloc | apply pw_below_drewN | apply below_drew1 | refine below_set ?_ (IsS54.ge HI190.out) | refine below_set ?_ GE189.out) | exact HB.out)); rintro e w16 ⟨rfl, hi, hb, hk⟩; refine ⟨_, rfl, ?_⟩; have n0_ := Aside0.mk (KeepBut.blk hk (g' := gb189) (o := .cells #[.int .i64 0, .int .i64 0, .int .i64 0, .int .i64 0, .int .i64 0, .string (⟨#[]⟩ : ByteArray)] 23 (0, 0)) (by (with_reducible repeat (first | refine blk_drewN ?_ _ | refine blk_drew ?_ | refine blk_alloc ?_ _)); exact BK189.out) NB189_190.out (by simp)); have n1_ := Aside0.mk (hb); have n2_ := Aside0.mk (hi); clear BK189; clear HB; clear HI190; have BK189 := n0_; have HB := n1_; have HI190 := n2_; clear n0_ n1_ n2_; (try clear hb); (try clear hb2); (try clear hk); (try clear hi)))
   go_meet
   case rel => exact ⟨_, (t203), (t204), (t205), (by first | rfl | (simp; done) | (simp [*]; done)), H', ⟨by first | omega | exact Nat.le_refl _⟩, ⟨by (with_reducible repeat (first | refine blk_drewN ?_ _ | refine blk_drew ?_ | refine blk_alloc ?_ _)); exact BK189.out⟩, ⟨by repeat (first | (with_reducible first | exact HI190.out | apply IsS54.alloc | apply IsS54.drewN | apply IsS54.drew | apply IsS54.set_0 | apply IsS54.set_1 | refine IsS54.far ?_ NB190_189.out _) | exact HI190.out)⟩, ⟨by repeat (first | (with_reducible first | exact HB.out | apply below_alloc | apply pw_below_drewN | apply below_drew1 | refine below_set ?_ (IsS54.ge HI190.out) | refine below_set ?_ GE189.out) | exact HB.out)⟩⟩
  ·rw [if_neg c14] at H
   have c14b0 : (t191 == 1) = false := beq_eq_false_iff_ne.mpr c14
   have c14b1 : (t191 != 1) = true := bne_iff_ne.mpr c14
   (first | rw [c14b0] | (simp only [i64_w, i32_w]; rw [c14b0]) | skip)
   have H' := Aside0.mk H
   clear H
   go_wp2
   go_meet
   case rel => exact ⟨_, (0), (t201), (t202), (by first | rfl | (simp; done) | (simp [*]; done)), H', ⟨by first | omega | exact Nat.le_refl _⟩, ⟨by (with_reducible repeat (first | refine blk_drewN ?_ _ | refine blk_drew ?_ | refine blk_alloc ?_ _)); exact BK189.out⟩, ⟨by repeat (first | (with_reducible first | exact HI190.out | apply IsS54.alloc | apply IsS54.drewN | apply IsS54.drew | apply IsS54.set_0 | apply IsS54.set_1 | refine IsS54.far ?_ NB190_189.out _) | exact HI190.out)⟩, ⟨by repeat (first | (with_reducible first | exact HB.out | apply below_alloc | apply pw_below_drewN | apply below_drew1 | refine below_set ?_ (IsS54.ge HI190.out) | refine below_set ?_ GE189.out) | exact HB.out)⟩⟩
 case rest =>
  clear HC6
  try clear c1
  try clear c2
  try clear p2
  try clear c3
  try clear c14
  try clear c14b0
  try clear c14b1
  try clear c16
  try clear hcz9_0
  try clear hcz9_1
  try clear hfz9_0
  try clear hfz9_1
  obtain ⟨kq, x9_5, x191000_5, x191001_5, rfl, HA, HJ5, BK189, HI190, HB⟩ := hcut
  cases kq with
  | zero => exact absurd HA.out (by simp [coppiceref14_Decode.j0])
  | succ kj5 =>
   have H := HA.out
   clear HA
   simp only [coppiceref14_Decode.j0] at H
   have HC17 := Aside0.mk H
   clear H
   go_upto_if 22 with (fail)
   go_cut [10] (fun v10 wc => ∃ (kq : Nat) (x10_16 : ByteArray) (x191000_16 : ByteArray) (x191001_16 : Int), v10 = .string x10_16 ∧ Aside0 (coppiceref14_Decode.j1 kq t191 t194 t197 t200 x9_5 x10_16 x191000_16 x191001_16 = some (r1, r2, r3, r4, r5, r6, r7)) ∧ Aside0 (kq ≤ kj5) ∧ Aside0 (wc.heap[gb189]? = some (.cells #[.int .i64 0, .int .i64 0, .int .i64 0, .int .i64 0, .int .i64 0, .string (⟨#[]⟩ : ByteArray)] 23 (0, 0))) ∧ Aside0 (IsS54 w wc gb190 x191000_16 x191001_16) ∧ Aside0 (Below w.heap.size w wc))
   case first =>
    have H := HC17.out
    clear HC17
    by_cases c18 : t191 = 3
    ·rw [if_pos c18] at H
     have c18b0 : (t191 == 3) = true := beq_iff_eq.mpr c18
     have c18b1 : (t191 != 3) = false := bne_eq_false_iff_eq.mpr c18
     clear c18
     (first | rw [c18b0] | (simp only [i64_w, i32_w]; rw [c18b0]) | skip)
     replace H := Option.bind_eq_some_iff.mp H
     obtain ⟨⟨t206, t207, t208⟩, A190, H⟩ := H
     replace H : (coppiceref14_Decode.j1 kj5 t191 t194 t197 t200 x9_5 t206 t207 t208) = some (r1, r2, r3, r4, r5, r6, r7) := H
     have A19 := Aside0.mk A190
     clear A190
     have H' := Aside0.mk H
     clear H
     go_wp2_with (first | ((with_reducible refine gate_callee (f := 35) rfl ?_); refine goesL_ (some 23) rfl rfl Try.func35 (by kernel_rfl) rfl #[.pointer (some ⟨gb190, 0, none⟩), .int .i64 100] rfl (by (try simp only [List.map_toArray, List.map_cons, List.map_nil]); first | done | rfl | (simp only [List.length_drop, List.length_take]; rfl)) ?_; (with_reducible refine (coppiceref02_Reader_Text.calls kj5 gb190 x191000_5 x191001_5 100 t206 t207 t208 w _ ?side1 ?side2 A19.out).mono ?_); (case side1 => repeat (first | (with_reducible first | exact HI190.out | apply IsS54.alloc | apply IsS54.drewN | apply IsS54.drew | apply IsS54.set_0 | apply IsS54.set_1 | refine IsS54.far ?_ NB190_189.out _) | exact HI190.out)); (case side2 => repeat (first | (with_reducible first | exact HB.out | apply below_alloc | apply pw_below_drewN | apply below_drew1 | refine below_set ?_ (IsS54.ge HI190.out) | refine below_set ?_ GE189.out) | exact HB.out)); rintro e w20 ⟨rfl, hi, hb, hk⟩; refine ⟨_, rfl, ?_⟩; have n0_ := Aside0.mk (KeepBut.blk hk (g' := gb189) (o := .cells #[.int .i64 0, .int .i64 0, .int .i64 0, .int .i64 0, .int .i64 0, .string (⟨#[]⟩ : ByteArray)] 23 (0, 0)) (by (with_reducible repeat (first | refine blk_drewN ?_ _ | refine blk_drew ?_ | refine blk_alloc ?_ _)); exact BK189.out) NB189_190.out (by simp)); have n1_ := Aside0.mk (hb); have n2_ := Aside0.mk (hi); clear BK189; clear HB; clear HI190; have BK189 := n0_; have HB := n1_; have HI190 := n2_; clear n0_ n1_ n2_; (try clear hb); (try clear hb2); (try clear hk); (try clear hi)))
     go_meet
     case rel => exact ⟨_, (t206), (t207), (t208), (by first | rfl | (simp; done) | (simp [*]; done)), H', ⟨by have := HJ5.out; first | omega | exact Nat.le_refl _⟩, ⟨by (with_reducible repeat (first | refine blk_drewN ?_ _ | refine blk_drew ?_ | refine blk_alloc ?_ _)); exact BK189.out⟩, ⟨by repeat (first | (with_reducible first | exact HI190.out | apply IsS54.alloc | apply IsS54.drewN | apply IsS54.drew | apply IsS54.set_0 | apply IsS54.set_1 | refine IsS54.far ?_ NB190_189.out _) | exact HI190.out)⟩, ⟨by repeat (first | (with_reducible first | exact HB.out | apply below_alloc | apply pw_below_drewN | apply below_drew1 | refine below_set ?_ (IsS54.ge HI190.out) | refine below_set ?_ GE189.out) | exact HB.out)⟩⟩
    ·rw [if_neg c18] at H
     have c18b0 : (t191 == 3) = false := beq_eq_false_iff_ne.mpr c18
     have c18b1 : (t191 != 3) = true := bne_iff_ne.mpr c18
     (first | rw [c18b0] | (simp only [i64_w, i32_w]; rw [c18b0]) | skip)
     have H' := Aside0.mk H
     clear H
     go_wp2
     go_meet
     case rel => exact ⟨_, ((⟨#[]⟩ : ByteArray)), (x191000_5), (x191001_5), (by first | rfl | (simp; done) | (simp [*]; done)), H', ⟨by have := HJ5.out; first | omega | exact Nat.le_refl _⟩, ⟨by (with_reducible repeat (first | refine blk_drewN ?_ _ | refine blk_drew ?_ | refine blk_alloc ?_ _)); exact BK189.out⟩, ⟨by repeat (first | (with_reducible first | exact HI190.out | apply IsS54.alloc | apply IsS54.drewN | apply IsS54.drew | apply IsS54.set_0 | apply IsS54.set_1 | refine IsS54.far ?_ NB190_189.out _) | exact HI190.out)⟩, ⟨by repeat (first | (with_reducible first | exact HB.out | apply below_alloc | apply pw_below_drewN | apply below_drew1 | refine below_set ?_ (IsS54.ge HI190.out) | refine below_set ?_ GE189.out) | exact HB.out)⟩⟩
   case rest =>
    clear HC17
    try clear c1
    try clear c2
    try clear p2
    try clear c3
    try clear c14
    try clear c14b0
    try clear c14b1
    try clear c16
    try clear c18
    try clear c18b0
    try clear c18b1
    try clear hcz9_0
    try clear hcz9_1
    try clear hfz9_0
    try clear hfz9_1
    try clear p2
    obtain ⟨kq, x10_16, x191000_16, x191001_16, rfl, HA, HJ16, BK189, HI190, HB⟩ := hcut
    cases kq with
    | zero => exact absurd HA.out (by simp [coppiceref14_Decode.j1])
    | succ kj16 =>
     have H := HA.out
     clear HA
     simp only [coppiceref14_Decode.j1] at H
     have HC21 := Aside0.mk H
     clear H
     go_upto_region 9 with (fail)
     go_cut [37] (fun v37 wc => ∃ (kq : Nat) (x37_20 : Bool), v37 = .bool x37_20 ∧ Aside0 (coppiceref14_Decode.j2 kq t191 t194 t197 t200 x9_5 x10_16 x37_20 = some (r1, r2, r3, r4, r5, r6, r7)) ∧ Aside0 (kq ≤ kj16) ∧ Aside0 (wc.heap[gb189]? = some (.cells #[.int .i64 0, .int .i64 0, .int .i64 0, .int .i64 0, .int .i64 0, .string (⟨#[]⟩ : ByteArray)] 23 (0, 0))) ∧ Aside0 (Below w.heap.size w wc))
     case first =>
      have H := HC21.out
      clear HC21
      replace H := Option.bind_eq_some_iff.mp H
      obtain ⟨⟨t209, t210, t211⟩, A220, H⟩ := H
      replace H : (if t209 = 0 then (if t194 > 4095 then (coppiceref14_Decode.j2 kj16 t191 t194 t197 t200 x9_5 x10_16 true) else (if t200 > 1099511627776 then (coppiceref14_Decode.j2 kj16 t191 t194 t197 t200 x9_5 x10_16 true) else (coppiceref14_Decode.j2 kj16 t191 t194 t197 t200 x9_5 x10_16 (decide (x9_5 > 4611686018427387904))))) else (coppiceref14_Decode.j2 kj16 t191 t194 t197 t200 x9_5 x10_16 true)) = some (r1, r2, r3, r4, r5, r6, r7) := H
      have A22 := Aside0.mk A220
      clear A220
      have A22q := Aside0.mk (show t210 = x191000_16 ∧ t211 = x191001_16 from by have h_ := A22.out; simp only [coppiceref02_Reader_End.f] at h_; (repeat' split at h_) <;> cases h_ <;> exact ⟨rfl, rfl⟩)
      by_cases c23 : t209 = 0
      ·rw [if_pos c23] at H
       have c23b0 : (t209 == 0) = true := beq_iff_eq.mpr c23
       have c23b1 : (t209 != 0) = false := bne_eq_false_iff_eq.mpr c23
       clear c23
       (first | rw [c23b0] | (simp only [i64_w, i32_w]; rw [c23b0]) | skip)
       by_cases c24 : t194 > 4095
       ·rw [if_pos c24] at H
        have c24b0 : decide (4095 < t194) = true := decide_eq_true c24
        clear c24
        have H' := Aside0.mk H
        clear H
        go_wp2_with (first | ((with_reducible refine gate_callee (f := 29) rfl ?_); refine goesL_ (some 24) rfl rfl Try.func29 (by kernel_rfl) rfl #[.pointer (some ⟨gb190, 0, none⟩)] rfl (by (try simp only [List.map_toArray, List.map_cons, List.map_nil]); first | done | rfl | (simp only [List.length_drop, List.length_take]; rfl)) ?_; (with_reducible refine (coppiceref02_Reader_End.calls gb190 x191000_16 x191001_16 t209 t210 t211 w _ ?side1 ?side2 A22.out).mono ?_); (case side1 => repeat (first | (with_reducible first | exact HI190.out | apply IsS54.alloc | apply IsS54.drewN | apply IsS54.drew | apply IsS54.set_0 | apply IsS54.set_1 | refine IsS54.far ?_ NB190_189.out _) | exact HI190.out)); (case side2 => repeat (first | (with_reducible first | exact HB.out | apply below_alloc | apply pw_below_drewN | apply below_drew1 | refine below_set ?_ (IsS54.ge HI190.out) | refine below_set ?_ GE189.out) | exact HB.out)); rintro e w25 ⟨rfl, hi, hb, hk⟩; refine ⟨_, rfl, ?_⟩; (try rw [A22q.out.1] at hi); (try rw [A22q.out.2] at hi); have n0_ := Aside0.mk (KeepBut.blk hk (g' := gb189) (o := .cells #[.int .i64 0, .int .i64 0, .int .i64 0, .int .i64 0, .int .i64 0, .string (⟨#[]⟩ : ByteArray)] 23 (0, 0)) (by (with_reducible repeat (first | refine blk_drewN ?_ _ | refine blk_drew ?_ | refine blk_alloc ?_ _)); exact BK189.out) NB189_190.out (by simp)); have n1_ := Aside0.mk (hb); have n2_ := Aside0.mk (hi); clear BK189; clear HB; clear HI190; have BK189 := n0_; have HB := n1_; have HI190 := n2_; clear n0_ n1_ n2_; (try clear hb); (try clear hb2); (try clear hk); (try clear hi)))
        go_meet
        case rel => exact ⟨_, (true), (by first | rfl | (simp; done) | (simp [*]; done)), H', ⟨by have := HJ5.out; have := HJ16.out; first | omega | exact Nat.le_refl _⟩, ⟨by (with_reducible repeat (first | refine blk_drewN ?_ _ | refine blk_drew ?_ | refine blk_alloc ?_ _)); exact BK189.out⟩, ⟨by repeat (first | (with_reducible first | exact HB.out | apply below_alloc | apply pw_below_drewN | apply below_drew1 | refine below_set ?_ (IsS54.ge HI190.out) | refine below_set ?_ GE189.out) | exact HB.out)⟩⟩
       ·rw [if_neg c24] at H
        have c24b0 : decide (4095 < t194) = false := decide_eq_false c24
        clear c24
        by_cases c26 : t200 > 1099511627776
        ·rw [if_pos c26] at H
         have c26b0 : decide (1099511627776 < t200) = true := decide_eq_true c26
         clear c26
         have H' := Aside0.mk H
         clear H
         go_wp2_with (first | ((with_reducible refine gate_callee (f := 29) rfl ?_); refine goesL_ (some 24) rfl rfl Try.func29 (by kernel_rfl) rfl #[.pointer (some ⟨gb190, 0, none⟩)] rfl (by (try simp only [List.map_toArray, List.map_cons, List.map_nil]); first | done | rfl | (simp only [List.length_drop, List.length_take]; rfl)) ?_; (with_reducible refine (coppiceref02_Reader_End.calls gb190 x191000_16 x191001_16 t209 t210 t211 w _ ?side1 ?side2 A22.out).mono ?_); (case side1 => repeat (first | (with_reducible first | exact HI190.out | apply IsS54.alloc | apply IsS54.drewN | apply IsS54.drew | apply IsS54.set_0 | apply IsS54.set_1 | refine IsS54.far ?_ NB190_189.out _) | exact HI190.out)); (case side2 => repeat (first | (with_reducible first | exact HB.out | apply below_alloc | apply pw_below_drewN | apply below_drew1 | refine below_set ?_ (IsS54.ge HI190.out) | refine below_set ?_ GE189.out) | exact HB.out)); rintro e w27 ⟨rfl, hi, hb, hk⟩; refine ⟨_, rfl, ?_⟩; (try rw [A22q.out.1] at hi); (try rw [A22q.out.2] at hi); have n0_ := Aside0.mk (KeepBut.blk hk (g' := gb189) (o := .cells #[.int .i64 0, .int .i64 0, .int .i64 0, .int .i64 0, .int .i64 0, .string (⟨#[]⟩ : ByteArray)] 23 (0, 0)) (by (with_reducible repeat (first | refine blk_drewN ?_ _ | refine blk_drew ?_ | refine blk_alloc ?_ _)); exact BK189.out) NB189_190.out (by simp)); have n1_ := Aside0.mk (hb); have n2_ := Aside0.mk (hi); clear BK189; clear HB; clear HI190; have BK189 := n0_; have HB := n1_; have HI190 := n2_; clear n0_ n1_ n2_; (try clear hb); (try clear hb2); (try clear hk); (try clear hi)))
         go_meet
         case rel => exact ⟨_, (true), (by first | rfl | (simp; done) | (simp [*]; done)), H', ⟨by have := HJ5.out; have := HJ16.out; first | omega | exact Nat.le_refl _⟩, ⟨by (with_reducible repeat (first | refine blk_drewN ?_ _ | refine blk_drew ?_ | refine blk_alloc ?_ _)); exact BK189.out⟩, ⟨by repeat (first | (with_reducible first | exact HB.out | apply below_alloc | apply pw_below_drewN | apply below_drew1 | refine below_set ?_ (IsS54.ge HI190.out) | refine below_set ?_ GE189.out) | exact HB.out)⟩⟩
        ·rw [if_neg c26] at H
         have c26b0 : decide (1099511627776 < t200) = false := decide_eq_false c26
         clear c26
         have H' := Aside0.mk H
         clear H
         go_wp2_with (first | ((with_reducible refine gate_callee (f := 29) rfl ?_); refine goesL_ (some 24) rfl rfl Try.func29 (by kernel_rfl) rfl #[.pointer (some ⟨gb190, 0, none⟩)] rfl (by (try simp only [List.map_toArray, List.map_cons, List.map_nil]); first | done | rfl | (simp only [List.length_drop, List.length_take]; rfl)) ?_; (with_reducible refine (coppiceref02_Reader_End.calls gb190 x191000_16 x191001_16 t209 t210 t211 w _ ?side1 ?side2 A22.out).mono ?_); (case side1 => repeat (first | (with_reducible first | exact HI190.out | apply IsS54.alloc | apply IsS54.drewN | apply IsS54.drew | apply IsS54.set_0 | apply IsS54.set_1 | refine IsS54.far ?_ NB190_189.out _) | exact HI190.out)); (case side2 => repeat (first | (with_reducible first | exact HB.out | apply below_alloc | apply pw_below_drewN | apply below_drew1 | refine below_set ?_ (IsS54.ge HI190.out) | refine below_set ?_ GE189.out) | exact HB.out)); rintro e w28 ⟨rfl, hi, hb, hk⟩; refine ⟨_, rfl, ?_⟩; (try rw [A22q.out.1] at hi); (try rw [A22q.out.2] at hi); have n0_ := Aside0.mk (KeepBut.blk hk (g' := gb189) (o := .cells #[.int .i64 0, .int .i64 0, .int .i64 0, .int .i64 0, .int .i64 0, .string (⟨#[]⟩ : ByteArray)] 23 (0, 0)) (by (with_reducible repeat (first | refine blk_drewN ?_ _ | refine blk_drew ?_ | refine blk_alloc ?_ _)); exact BK189.out) NB189_190.out (by simp)); have n1_ := Aside0.mk (hb); have n2_ := Aside0.mk (hi); clear BK189; clear HB; clear HI190; have BK189 := n0_; have HB := n1_; have HI190 := n2_; clear n0_ n1_ n2_; (try clear hb); (try clear hb2); (try clear hk); (try clear hi)))
         go_meet
         case rel => exact ⟨_, (decide (x9_5 > 4611686018427387904)), (by first | rfl | (simp; done) | (simp [*]; done)), H', ⟨by have := HJ5.out; have := HJ16.out; first | omega | exact Nat.le_refl _⟩, ⟨by (with_reducible repeat (first | refine blk_drewN ?_ _ | refine blk_drew ?_ | refine blk_alloc ?_ _)); exact BK189.out⟩, ⟨by repeat (first | (with_reducible first | exact HB.out | apply below_alloc | apply pw_below_drewN | apply below_drew1 | refine below_set ?_ (IsS54.ge HI190.out) | refine below_set ?_ GE189.out) | exact HB.out)⟩⟩
      ·rw [if_neg c23] at H
       have c23b0 : (t209 == 0) = false := beq_eq_false_iff_ne.mpr c23
       have c23b1 : (t209 != 0) = true := bne_iff_ne.mpr c23
       (first | rw [c23b0] | (simp only [i64_w, i32_w]; rw [c23b0]) | skip)
       have H' := Aside0.mk H
       clear H
       go_wp2_with (first | ((with_reducible refine gate_callee (f := 29) rfl ?_); refine goesL_ (some 24) rfl rfl Try.func29 (by kernel_rfl) rfl #[.pointer (some ⟨gb190, 0, none⟩)] rfl (by (try simp only [List.map_toArray, List.map_cons, List.map_nil]); first | done | rfl | (simp only [List.length_drop, List.length_take]; rfl)) ?_; (with_reducible refine (coppiceref02_Reader_End.calls gb190 x191000_16 x191001_16 t209 t210 t211 w _ ?side1 ?side2 A22.out).mono ?_); (case side1 => repeat (first | (with_reducible first | exact HI190.out | apply IsS54.alloc | apply IsS54.drewN | apply IsS54.drew | apply IsS54.set_0 | apply IsS54.set_1 | refine IsS54.far ?_ NB190_189.out _) | exact HI190.out)); (case side2 => repeat (first | (with_reducible first | exact HB.out | apply below_alloc | apply pw_below_drewN | apply below_drew1 | refine below_set ?_ (IsS54.ge HI190.out) | refine below_set ?_ GE189.out) | exact HB.out)); rintro e w29 ⟨rfl, hi, hb, hk⟩; refine ⟨_, rfl, ?_⟩; (try rw [A22q.out.1] at hi); (try rw [A22q.out.2] at hi); have n0_ := Aside0.mk (KeepBut.blk hk (g' := gb189) (o := .cells #[.int .i64 0, .int .i64 0, .int .i64 0, .int .i64 0, .int .i64 0, .string (⟨#[]⟩ : ByteArray)] 23 (0, 0)) (by (with_reducible repeat (first | refine blk_drewN ?_ _ | refine blk_drew ?_ | refine blk_alloc ?_ _)); exact BK189.out) NB189_190.out (by simp)); have n1_ := Aside0.mk (hb); have n2_ := Aside0.mk (hi); clear BK189; clear HB; clear HI190; have BK189 := n0_; have HB := n1_; have HI190 := n2_; clear n0_ n1_ n2_; (try clear hb); (try clear hb2); (try clear hk); (try clear hi)))
       go_meet
       case rel => exact ⟨_, (true), (by first | rfl | (simp; done) | (simp [*]; done)), H', ⟨by have := HJ5.out; have := HJ16.out; first | omega | exact Nat.le_refl _⟩, ⟨by (with_reducible repeat (first | refine blk_drewN ?_ _ | refine blk_drew ?_ | refine blk_alloc ?_ _)); exact BK189.out⟩, ⟨by repeat (first | (with_reducible first | exact HB.out | apply below_alloc | apply pw_below_drewN | apply below_drew1 | refine below_set ?_ (IsS54.ge HI190.out) | refine below_set ?_ GE189.out) | exact HB.out)⟩⟩
     case rest =>
      clear HC21
      try clear c1
      try clear c2
      try clear p2
      try clear c3
      try clear c14
      try clear c14b0
      try clear c14b1
      try clear c16
      try clear c18
      try clear c18b0
      try clear c18b1
      try clear c23
      try clear c23b0
      try clear c23b1
      try clear c24
      try clear c24b0
      try clear c26
      try clear c26b0
      try clear c28
      try clear c29
      try clear hcz9_0
      try clear hcz9_1
      try clear hfz9_0
      try clear hfz9_1
      try clear p2
      obtain ⟨kq, x37_20, rfl, HA, HJ20, BK189, HB⟩ := hcut
      cases kq with
      | zero => exact absurd HA.out (by simp [coppiceref14_Decode.j2])
      | succ kj20 =>
       have H := HA.out
       clear HA
       simp only [coppiceref14_Decode.j2] at H
       by_cases c30 : x37_20 = true
       ·subst c30
        have H1 : (some (0, 0, 0, 0, 0, (⟨#[]⟩ : ByteArray), 21)) = some (r1, r2, r3, r4, r5, r6, r7) := by rw [if_pos rfl] at H; exact H
        clear H
        have H := H1
        clear H1
        simp only [Option.some.injEq, Prod.mk.injEq] at H
        obtain ⟨rfl, rfl, rfl, rfl, rfl, rfl, rfl⟩ := H
        have hcz31_0 : wc.cell? ⟨gb189, 0, none⟩ = some (.int .i64 0) := (blk_cell BK189.out 0).trans rfl
        have hcz31_1 : wc.cell? ⟨gb189, 1, none⟩ = some (.int .i64 0) := (blk_cell BK189.out 1).trans rfl
        have hcz31_2 : wc.cell? ⟨gb189, 2, none⟩ = some (.int .i64 0) := (blk_cell BK189.out 2).trans rfl
        have hcz31_3 : wc.cell? ⟨gb189, 3, none⟩ = some (.int .i64 0) := (blk_cell BK189.out 3).trans rfl
        have hcz31_4 : wc.cell? ⟨gb189, 4, none⟩ = some (.int .i64 0) := (blk_cell BK189.out 4).trans rfl
        have hcz31_5 : wc.cell? ⟨gb189, 5, none⟩ = some (.string (⟨#[]⟩ : ByteArray)) := (blk_cell BK189.out 5).trans rfl
        have hfz31_0 := blk_frozen BK189.out 0
        have hfz31_1 := blk_frozen BK189.out 1
        have hfz31_2 := blk_frozen BK189.out 2
        have hfz31_3 := blk_frozen BK189.out 3
        have hfz31_4 := blk_frozen BK189.out 4
        have hfz31_5 := blk_frozen BK189.out 5
        go_wp2
        refine bodyPost_ret (results_ct rfl _ _ gb189 23 #[.int .i64 0, .int .i64 0, .int .i64 0, .int .i64 0, .int .i64 0, .string (⟨#[]⟩ : ByteArray)] (0, 0) _ rfl (by (with_reducible repeat (first | refine blk_drewN ?_ _ | refine blk_drew ?_ | refine blk_alloc ?_ _)); refine blk_put (cs := #[.int .i64 0, .int .i64 0, .int .i64 0, .int .i64 0, .int .i64 0, .string (⟨#[]⟩ : ByteArray)]) ?_ 5 _ rfl; (with_reducible repeat (first | refine blk_drewN ?_ _ | refine blk_drew ?_ | refine blk_alloc ?_ _)); refine blk_put (cs := #[.int .i64 0, .int .i64 0, .int .i64 0, .int .i64 0, .int .i64 0, .string (⟨#[]⟩ : ByteArray)]) ?_ 4 _ rfl; (with_reducible repeat (first | refine blk_drewN ?_ _ | refine blk_drew ?_ | refine blk_alloc ?_ _)); refine blk_put (cs := #[.int .i64 0, .int .i64 0, .int .i64 0, .int .i64 0, .int .i64 0, .string (⟨#[]⟩ : ByteArray)]) ?_ 3 _ rfl; (with_reducible repeat (first | refine blk_drewN ?_ _ | refine blk_drew ?_ | refine blk_alloc ?_ _)); refine blk_put (cs := #[.int .i64 0, .int .i64 0, .int .i64 0, .int .i64 0, .int .i64 0, .string (⟨#[]⟩ : ByteArray)]) ?_ 2 _ rfl; (with_reducible repeat (first | refine blk_drewN ?_ _ | refine blk_drew ?_ | refine blk_alloc ?_ _)); refine blk_put (cs := #[.int .i64 0, .int .i64 0, .int .i64 0, .int .i64 0, .int .i64 0, .string (⟨#[]⟩ : ByteArray)]) ?_ 1 _ rfl; (with_reducible repeat (first | refine blk_drewN ?_ _ | refine blk_drew ?_ | refine blk_alloc ?_ _)); refine blk_put (cs := #[.int .i64 0, .int .i64 0, .int .i64 0, .int .i64 0, .int .i64 0, .string (⟨#[]⟩ : ByteArray)]) ?_ 0 _ rfl; (with_reducible repeat (first | refine blk_drewN ?_ _ | refine blk_drew ?_ | refine blk_alloc ?_ _)); exact BK189.out) Try.underlying23 rfl (by kernel_rfl)) rfl ?_
        exact ⟨by first | rfl | (simp [errW_none, errW_some] <;> rfl) | (simp [*, errW_none, errW_some] <;> rfl), by repeat (first | (with_reducible first | exact HB.out | apply below_alloc | apply pw_below_drewN | apply below_drew1 | refine below_set ?_ GE189.out) | exact HB.out)⟩
       ·replace c30 := Bool.eq_false_iff.mpr c30
        subst c30
        have H1 : ((coppiceref14_Right.f kj20 (wrap64 (t191)) (wrap64 (t194)) (wrap64 (t197)) (wrap64 (t200)) (wrap64 (x9_5)) x10_16).bind fun t213 => (if t213 = true then (some (wrap64 (t191), wrap64 (t194), wrap64 (t197), wrap64 (t200), wrap64 (x9_5), x10_16, 0)) else (some (0, 0, 0, 0, 0, (⟨#[]⟩ : ByteArray), 21)))) = some (r1, r2, r3, r4, r5, r6, r7) := by rw [if_neg (show ¬ (false = true) by decide)] at H; exact H
        clear H
        have H := H1
        clear H1
        replace H := Option.bind_eq_some_iff.mp H
        obtain ⟨t213, A320, H⟩ := H
        replace H : (if t213 = true then (some (wrap64 (t191), wrap64 (t194), wrap64 (t197), wrap64 (t200), wrap64 (x9_5), x10_16, 0)) else (some (0, 0, 0, 0, 0, (⟨#[]⟩ : ByteArray), 21))) = some (r1, r2, r3, r4, r5, r6, r7) := H
        have A32 := Aside0.mk A320
        clear A320
        by_cases c33 : t213 = true
        ·subst c33
         have H1 : (some (wrap64 (t191), wrap64 (t194), wrap64 (t197), wrap64 (t200), wrap64 (x9_5), x10_16, 0)) = some (r1, r2, r3, r4, r5, r6, r7) := by rw [if_pos rfl] at H; exact H
         clear H
         have H := H1
         clear H1
         simp only [Option.some.injEq, Prod.mk.injEq] at H
         obtain ⟨rfl, rfl, rfl, rfl, rfl, rfl, rfl⟩ := H
         go_wp2_with (first | ((with_reducible refine gate_dst (N := 11) rfl ?_); refine box_event ?hg (N := 11) ?hd (cs := #[.int .i64 0, .int .i64 0, .int .i64 0, .int .i64 0, .int .i64 0, .string (⟨#[]⟩ : ByteArray)]) (t := 23) ?hr ?_; (case hd => rfl); (case hg => rfl); (case hr => first | (go_simp; done) | (go_simp; rfl)); intro gb212 hg w34 hbox hb; have n0_ := Aside0.mk (blk_below (g := gb189) (o := .cells #[.int .i64 0, .int .i64 0, .int .i64 0, .int .i64 0, .int .i64 0, .string (⟨#[]⟩ : ByteArray)] 23 (0, 0)) (by (with_reducible repeat (first | refine blk_drewN ?_ _ | refine blk_drew ?_ | refine blk_alloc ?_ _)); exact BK189.out) hb); have n1_ := Aside0.mk (below_step (by repeat (first | (with_reducible first | exact HB.out | apply below_alloc | apply pw_below_drewN | apply below_drew1 | refine below_set ?_ GE189.out) | exact HB.out)) hb); have n2_ := Aside0.mk (hbox); have n3_ := Aside0.mk ((by rw [hg]; exact (below_size (by repeat (first | (with_reducible first | exact HB.out | apply below_alloc | apply pw_below_drewN | apply below_drew1 | refine below_set ?_ GE189.out) | exact HB.out))) : w.heap.size ≤ gb212)); have n4_ := Aside0.mk ((by rw [hg]; exact (below_size (by repeat (first | (with_reducible first | exact HB.out | apply below_alloc | apply pw_below_drewN | apply below_drew1 | refine below_set ?_ GE189.out) | exact HB.out))) : w.heap.size ≤ gb212)); have n5_ := Aside0.mk ((by rw [hg]; exact Nat.ne_of_lt (blk_lt (g := gb189) (o := .cells #[.int .i64 0, .int .i64 0, .int .i64 0, .int .i64 0, .int .i64 0, .string (⟨#[]⟩ : ByteArray)] 23 (0, 0)) (by (with_reducible repeat (first | refine blk_drewN ?_ _ | refine blk_drew ?_ | refine blk_alloc ?_ _)); exact BK189.out)) : gb189 ≠ gb212)); have n6_ := Aside0.mk ((by rw [hg]; exact Nat.ne_of_gt (blk_lt (g := gb189) (o := .cells #[.int .i64 0, .int .i64 0, .int .i64 0, .int .i64 0, .int .i64 0, .string (⟨#[]⟩ : ByteArray)] 23 (0, 0)) (by (with_reducible repeat (first | refine blk_drewN ?_ _ | refine blk_drew ?_ | refine blk_alloc ?_ _)); exact BK189.out)) : gb212 ≠ gb189)); clear BK189; clear HB; have BK189 := n0_; have HB := n1_; have BK212 := n2_; have GW212 := n3_; have GE212 := n4_; have NB189_212 := n5_; have NB212_189 := n6_; clear n0_ n1_ n2_ n3_ n4_ n5_ n6_; clear hb hbox hg; have hnb35 := NB212_189.out; have hnc35 := NB189_212.out; have hcz36_0 : w34.cell? ⟨gb212, 0, none⟩ = some (.int .i64 0) := (blk_cell BK212.out 0).trans rfl; have hcz36_1 : w34.cell? ⟨gb212, 1, none⟩ = some (.int .i64 0) := (blk_cell BK212.out 1).trans rfl; have hcz36_2 : w34.cell? ⟨gb212, 2, none⟩ = some (.int .i64 0) := (blk_cell BK212.out 2).trans rfl; have hcz36_3 : w34.cell? ⟨gb212, 3, none⟩ = some (.int .i64 0) := (blk_cell BK212.out 3).trans rfl; have hcz36_4 : w34.cell? ⟨gb212, 4, none⟩ = some (.int .i64 0) := (blk_cell BK212.out 4).trans rfl; have hcz36_5 : w34.cell? ⟨gb212, 5, none⟩ = some (.string (⟨#[]⟩ : ByteArray)) := (blk_cell BK212.out 5).trans rfl; have hfz36_0 := blk_frozen BK212.out 0; have hfz36_1 := blk_frozen BK212.out 1; have hfz36_2 := blk_frozen BK212.out 2; have hfz36_3 := blk_frozen BK212.out 3; have hfz36_4 := blk_frozen BK212.out 4; have hfz36_5 := blk_frozen BK212.out 5) | ((with_reducible refine gate_callee (f := 20) rfl ?_); refine goesL_ (some 52) rfl rfl Try.func20 (by kernel_rfl) rfl #[.agg #[.int .i64 (wrap64 (t191)), .int .i64 (wrap64 (t194)), .int .i64 (wrap64 (t197)), .int .i64 (wrap64 (t200)), .int .i64 (wrap64 (x9_5)), .string x10_16]] rfl (by (try simp only [List.map_toArray, List.map_cons, List.map_nil]); first | done | rfl | (simp only [List.length_drop, List.length_take]; rfl)) ?_; (with_reducible refine (coppiceref14_Right.calls kj20 (wrap64 (t191)) (wrap64 (t194)) (wrap64 (t197)) (wrap64 (t200)) (wrap64 (x9_5)) x10_16 true _ A32.out).mono ?_); rintro e w37 ⟨rfl, hb⟩; refine ⟨_, rfl, ?_⟩; have n0_ := Aside0.mk (blk_below (g := gb189) (o := .cells #[.int .i64 0, .int .i64 0, .int .i64 0, .int .i64 0, .int .i64 0, .string (⟨#[]⟩ : ByteArray)] 23 (0, 0)) (by (with_reducible repeat (first | refine blk_drewN ?_ _ | refine blk_drew ?_ | refine blk_alloc ?_ _)); refine blk_far ?_ NB189_212.out _; (with_reducible repeat (first | refine blk_drewN ?_ _ | refine blk_drew ?_ | refine blk_alloc ?_ _)); refine blk_far ?_ NB189_212.out _; (with_reducible repeat (first | refine blk_drewN ?_ _ | refine blk_drew ?_ | refine blk_alloc ?_ _)); refine blk_far ?_ NB189_212.out _; (with_reducible repeat (first | refine blk_drewN ?_ _ | refine blk_drew ?_ | refine blk_alloc ?_ _)); refine blk_far ?_ NB189_212.out _; (with_reducible repeat (first | refine blk_drewN ?_ _ | refine blk_drew ?_ | refine blk_alloc ?_ _)); refine blk_far ?_ NB189_212.out _; (with_reducible repeat (first | refine blk_drewN ?_ _ | refine blk_drew ?_ | refine blk_alloc ?_ _)); refine blk_far ?_ NB189_212.out _; (with_reducible repeat (first | refine blk_drewN ?_ _ | refine blk_drew ?_ | refine blk_alloc ?_ _)); exact BK189.out) hb); have n1_ := Aside0.mk (blk_below (g := gb212) (o := .cells #[.int .i64 (wrap64 (t191)), .int .i64 (wrap64 (t194)), .int .i64 (wrap64 (t197)), .int .i64 (wrap64 (t200)), .int .i64 (wrap64 (x9_5)), .string x10_16] 23 (0, 0)) (by (with_reducible repeat (first | refine blk_drewN ?_ _ | refine blk_drew ?_ | refine blk_alloc ?_ _)); refine blk_put (cs := #[.int .i64 (wrap64 (t191)), .int .i64 (wrap64 (t194)), .int .i64 (wrap64 (t197)), .int .i64 (wrap64 (t200)), .int .i64 (wrap64 (x9_5)), .string (⟨#[]⟩ : ByteArray)]) ?_ 5 _ rfl; (with_reducible repeat (first | refine blk_drewN ?_ _ | refine blk_drew ?_ | refine blk_alloc ?_ _)); refine blk_put (cs := #[.int .i64 (wrap64 (t191)), .int .i64 (wrap64 (t194)), .int .i64 (wrap64 (t197)), .int .i64 (wrap64 (t200)), .int .i64 0, .string (⟨#[]⟩ : ByteArray)]) ?_ 4 _ rfl; (with_reducible repeat (first | refine blk_drewN ?_ _ | refine blk_drew ?_ | refine blk_alloc ?_ _)); refine blk_put (cs := #[.int .i64 (wrap64 (t191)), .int .i64 (wrap64 (t194)), .int .i64 (wrap64 (t197)), .int .i64 0, .int .i64 0, .string (⟨#[]⟩ : ByteArray)]) ?_ 3 _ rfl; (with_reducible repeat (first | refine blk_drewN ?_ _ | refine blk_drew ?_ | refine blk_alloc ?_ _)); refine blk_put (cs := #[.int .i64 (wrap64 (t191)), .int .i64 (wrap64 (t194)), .int .i64 0, .int .i64 0, .int .i64 0, .string (⟨#[]⟩ : ByteArray)]) ?_ 2 _ rfl; (with_reducible repeat (first | refine blk_drewN ?_ _ | refine blk_drew ?_ | refine blk_alloc ?_ _)); refine blk_put (cs := #[.int .i64 (wrap64 (t191)), .int .i64 0, .int .i64 0, .int .i64 0, .int .i64 0, .string (⟨#[]⟩ : ByteArray)]) ?_ 1 _ rfl; (with_reducible repeat (first | refine blk_drewN ?_ _ | refine blk_drew ?_ | refine blk_alloc ?_ _)); refine blk_put (cs := #[.int .i64 0, .int .i64 0, .int .i64 0, .int .i64 0, .int .i64 0, .string (⟨#[]⟩ : ByteArray)]) ?_ 0 _ rfl; (with_reducible repeat (first | refine blk_drewN ?_ _ | refine blk_drew ?_ | refine blk_alloc ?_ _)); exact BK212.out) hb); have n2_ := Aside0.mk (below_step (by repeat (first | (with_reducible first | exact HB.out | apply below_alloc | apply pw_below_drewN | apply below_drew1 | refine below_set ?_ GE189.out | refine below_set ?_ GE212.out) | exact HB.out)) hb); clear BK189; clear BK212; clear HB; have BK189 := n0_; have BK212 := n1_; have HB := n2_; clear n0_ n1_ n2_; (try clear hb); (try clear hb2); (try clear hk); (try clear hi); have hcz38_0 : w37.cell? ⟨gb212, 0, none⟩ = some (.int .i64 (wrap64 (t191))) := (blk_cell BK212.out 0).trans rfl; have hcz38_1 : w37.cell? ⟨gb212, 1, none⟩ = some (.int .i64 (wrap64 (t194))) := (blk_cell BK212.out 1).trans rfl; have hcz38_2 : w37.cell? ⟨gb212, 2, none⟩ = some (.int .i64 (wrap64 (t197))) := (blk_cell BK212.out 2).trans rfl; have hcz38_3 : w37.cell? ⟨gb212, 3, none⟩ = some (.int .i64 (wrap64 (t200))) := (blk_cell BK212.out 3).trans rfl; have hcz38_4 : w37.cell? ⟨gb212, 4, none⟩ = some (.int .i64 (wrap64 (x9_5))) := (blk_cell BK212.out 4).trans rfl; have hcz38_5 : w37.cell? ⟨gb212, 5, none⟩ = some (.string x10_16) := (blk_cell BK212.out 5).trans rfl; have hfz38_0 := blk_frozen BK212.out 0; have hfz38_1 := blk_frozen BK212.out 1; have hfz38_2 := blk_frozen BK212.out 2; have hfz38_3 := blk_frozen BK212.out 3; have hfz38_4 := blk_frozen BK212.out 4; have hfz38_5 := blk_frozen BK212.out 5; have hcz39_0 : w37.cell? ⟨gb189, 0, none⟩ = some (.int .i64 0) := (blk_cell BK189.out 0).trans rfl; have hcz39_1 : w37.cell? ⟨gb189, 1, none⟩ = some (.int .i64 0) := (blk_cell BK189.out 1).trans rfl; have hcz39_2 : w37.cell? ⟨gb189, 2, none⟩ = some (.int .i64 0) := (blk_cell BK189.out 2).trans rfl; have hcz39_3 : w37.cell? ⟨gb189, 3, none⟩ = some (.int .i64 0) := (blk_cell BK189.out 3).trans rfl; have hcz39_4 : w37.cell? ⟨gb189, 4, none⟩ = some (.int .i64 0) := (blk_cell BK189.out 4).trans rfl; have hcz39_5 : w37.cell? ⟨gb189, 5, none⟩ = some (.string (⟨#[]⟩ : ByteArray)) := (blk_cell BK189.out 5).trans rfl; have hfz39_0 := blk_frozen BK189.out 0; have hfz39_1 := blk_frozen BK189.out 1; have hfz39_2 := blk_frozen BK189.out 2; have hfz39_3 := blk_frozen BK189.out 3; have hfz39_4 := blk_frozen BK189.out 4; have hfz39_5 := blk_frozen BK189.out 5))
         refine bodyPost_ret (results_ct rfl _ _ gb189 23 #[.int .i64 (wrap64 (t191)), .int .i64 (wrap64 (t194)), .int .i64 (wrap64 (t197)), .int .i64 (wrap64 (t200)), .int .i64 (wrap64 (x9_5)), .string x10_16] (0, 0) _ rfl (by (with_reducible repeat (first | refine blk_drewN ?_ _ | refine blk_drew ?_ | refine blk_alloc ?_ _)); refine blk_put (cs := #[.int .i64 (wrap64 (t191)), .int .i64 (wrap64 (t194)), .int .i64 (wrap64 (t197)), .int .i64 (wrap64 (t200)), .int .i64 (wrap64 (x9_5)), .string (⟨#[]⟩ : ByteArray)]) ?_ 5 _ rfl; (with_reducible repeat (first | refine blk_drewN ?_ _ | refine blk_drew ?_ | refine blk_alloc ?_ _)); refine blk_put (cs := #[.int .i64 (wrap64 (t191)), .int .i64 (wrap64 (t194)), .int .i64 (wrap64 (t197)), .int .i64 (wrap64 (t200)), .int .i64 0, .string (⟨#[]⟩ : ByteArray)]) ?_ 4 _ rfl; (with_reducible repeat (first | refine blk_drewN ?_ _ | refine blk_drew ?_ | refine blk_alloc ?_ _)); refine blk_put (cs := #[.int .i64 (wrap64 (t191)), .int .i64 (wrap64 (t194)), .int .i64 (wrap64 (t197)), .int .i64 0, .int .i64 0, .string (⟨#[]⟩ : ByteArray)]) ?_ 3 _ rfl; (with_reducible repeat (first | refine blk_drewN ?_ _ | refine blk_drew ?_ | refine blk_alloc ?_ _)); refine blk_put (cs := #[.int .i64 (wrap64 (t191)), .int .i64 (wrap64 (t194)), .int .i64 0, .int .i64 0, .int .i64 0, .string (⟨#[]⟩ : ByteArray)]) ?_ 2 _ rfl; (with_reducible repeat (first | refine blk_drewN ?_ _ | refine blk_drew ?_ | refine blk_alloc ?_ _)); refine blk_put (cs := #[.int .i64 (wrap64 (t191)), .int .i64 0, .int .i64 0, .int .i64 0, .int .i64 0, .string (⟨#[]⟩ : ByteArray)]) ?_ 1 _ rfl; (with_reducible repeat (first | refine blk_drewN ?_ _ | refine blk_drew ?_ | refine blk_alloc ?_ _)); refine blk_put (cs := #[.int .i64 0, .int .i64 0, .int .i64 0, .int .i64 0, .int .i64 0, .string (⟨#[]⟩ : ByteArray)]) ?_ 0 _ rfl; (with_reducible repeat (first | refine blk_drewN ?_ _ | refine blk_drew ?_ | refine blk_alloc ?_ _)); exact BK189.out) Try.underlying23 rfl (by kernel_rfl)) rfl ?_
         exact ⟨by first | rfl | (simp [errW_none, errW_some] <;> rfl) | (simp [*, errW_none, errW_some] <;> rfl), by repeat (first | (with_reducible first | exact HB.out | apply below_alloc | apply pw_below_drewN | apply below_drew1 | refine below_set ?_ GE189.out | refine below_set ?_ GE212.out) | exact HB.out)⟩
        ·replace c33 := Bool.eq_false_iff.mpr c33
         subst c33
         have H1 : (some (0, 0, 0, 0, 0, (⟨#[]⟩ : ByteArray), 21)) = some (r1, r2, r3, r4, r5, r6, r7) := by rw [if_neg (show ¬ (false = true) by decide)] at H; exact H
         clear H
         have H := H1
         clear H1
         simp only [Option.some.injEq, Prod.mk.injEq] at H
         obtain ⟨rfl, rfl, rfl, rfl, rfl, rfl, rfl⟩ := H
         go_wp2_with (first | ((with_reducible refine gate_dst (N := 11) rfl ?_); refine box_event ?hg (N := 11) ?hd (cs := #[.int .i64 0, .int .i64 0, .int .i64 0, .int .i64 0, .int .i64 0, .string (⟨#[]⟩ : ByteArray)]) (t := 23) ?hr ?_; (case hd => rfl); (case hg => rfl); (case hr => first | (go_simp; done) | (go_simp; rfl)); intro gb212 hg w40 hbox hb; have n0_ := Aside0.mk (blk_below (g := gb189) (o := .cells #[.int .i64 0, .int .i64 0, .int .i64 0, .int .i64 0, .int .i64 0, .string (⟨#[]⟩ : ByteArray)] 23 (0, 0)) (by (with_reducible repeat (first | refine blk_drewN ?_ _ | refine blk_drew ?_ | refine blk_alloc ?_ _)); exact BK189.out) hb); have n1_ := Aside0.mk (below_step (by repeat (first | (with_reducible first | exact HB.out | apply below_alloc | apply pw_below_drewN | apply below_drew1 | refine below_set ?_ GE189.out) | exact HB.out)) hb); have n2_ := Aside0.mk (hbox); have n3_ := Aside0.mk ((by rw [hg]; exact (below_size (by repeat (first | (with_reducible first | exact HB.out | apply below_alloc | apply pw_below_drewN | apply below_drew1 | refine below_set ?_ GE189.out) | exact HB.out))) : w.heap.size ≤ gb212)); have n4_ := Aside0.mk ((by rw [hg]; exact (below_size (by repeat (first | (with_reducible first | exact HB.out | apply below_alloc | apply pw_below_drewN | apply below_drew1 | refine below_set ?_ GE189.out) | exact HB.out))) : w.heap.size ≤ gb212)); have n5_ := Aside0.mk ((by rw [hg]; exact Nat.ne_of_lt (blk_lt (g := gb189) (o := .cells #[.int .i64 0, .int .i64 0, .int .i64 0, .int .i64 0, .int .i64 0, .string (⟨#[]⟩ : ByteArray)] 23 (0, 0)) (by (with_reducible repeat (first | refine blk_drewN ?_ _ | refine blk_drew ?_ | refine blk_alloc ?_ _)); exact BK189.out)) : gb189 ≠ gb212)); have n6_ := Aside0.mk ((by rw [hg]; exact Nat.ne_of_gt (blk_lt (g := gb189) (o := .cells #[.int .i64 0, .int .i64 0, .int .i64 0, .int .i64 0, .int .i64 0, .string (⟨#[]⟩ : ByteArray)] 23 (0, 0)) (by (with_reducible repeat (first | refine blk_drewN ?_ _ | refine blk_drew ?_ | refine blk_alloc ?_ _)); exact BK189.out)) : gb212 ≠ gb189)); clear BK189; clear HB; have BK189 := n0_; have HB := n1_; have BK212 := n2_; have GW212 := n3_; have GE212 := n4_; have NB189_212 := n5_; have NB212_189 := n6_; clear n0_ n1_ n2_ n3_ n4_ n5_ n6_; clear hb hbox hg; have hnb41 := NB212_189.out; have hnc41 := NB189_212.out; have hcz42_0 : w40.cell? ⟨gb212, 0, none⟩ = some (.int .i64 0) := (blk_cell BK212.out 0).trans rfl; have hcz42_1 : w40.cell? ⟨gb212, 1, none⟩ = some (.int .i64 0) := (blk_cell BK212.out 1).trans rfl; have hcz42_2 : w40.cell? ⟨gb212, 2, none⟩ = some (.int .i64 0) := (blk_cell BK212.out 2).trans rfl; have hcz42_3 : w40.cell? ⟨gb212, 3, none⟩ = some (.int .i64 0) := (blk_cell BK212.out 3).trans rfl; have hcz42_4 : w40.cell? ⟨gb212, 4, none⟩ = some (.int .i64 0) := (blk_cell BK212.out 4).trans rfl; have hcz42_5 : w40.cell? ⟨gb212, 5, none⟩ = some (.string (⟨#[]⟩ : ByteArray)) := (blk_cell BK212.out 5).trans rfl; have hfz42_0 := blk_frozen BK212.out 0; have hfz42_1 := blk_frozen BK212.out 1; have hfz42_2 := blk_frozen BK212.out 2; have hfz42_3 := blk_frozen BK212.out 3; have hfz42_4 := blk_frozen BK212.out 4; have hfz42_5 := blk_frozen BK212.out 5) | ((with_reducible refine gate_callee (f := 20) rfl ?_); refine goesL_ (some 52) rfl rfl Try.func20 (by kernel_rfl) rfl #[.agg #[.int .i64 (wrap64 (t191)), .int .i64 (wrap64 (t194)), .int .i64 (wrap64 (t197)), .int .i64 (wrap64 (t200)), .int .i64 (wrap64 (x9_5)), .string x10_16]] rfl (by (try simp only [List.map_toArray, List.map_cons, List.map_nil]); first | done | rfl | (simp only [List.length_drop, List.length_take]; rfl)) ?_; (with_reducible refine (coppiceref14_Right.calls kj20 (wrap64 (t191)) (wrap64 (t194)) (wrap64 (t197)) (wrap64 (t200)) (wrap64 (x9_5)) x10_16 false _ A32.out).mono ?_); rintro e w43 ⟨rfl, hb⟩; refine ⟨_, rfl, ?_⟩; have n0_ := Aside0.mk (blk_below (g := gb189) (o := .cells #[.int .i64 0, .int .i64 0, .int .i64 0, .int .i64 0, .int .i64 0, .string (⟨#[]⟩ : ByteArray)] 23 (0, 0)) (by (with_reducible repeat (first | refine blk_drewN ?_ _ | refine blk_drew ?_ | refine blk_alloc ?_ _)); refine blk_far ?_ NB189_212.out _; (with_reducible repeat (first | refine blk_drewN ?_ _ | refine blk_drew ?_ | refine blk_alloc ?_ _)); refine blk_far ?_ NB189_212.out _; (with_reducible repeat (first | refine blk_drewN ?_ _ | refine blk_drew ?_ | refine blk_alloc ?_ _)); refine blk_far ?_ NB189_212.out _; (with_reducible repeat (first | refine blk_drewN ?_ _ | refine blk_drew ?_ | refine blk_alloc ?_ _)); refine blk_far ?_ NB189_212.out _; (with_reducible repeat (first | refine blk_drewN ?_ _ | refine blk_drew ?_ | refine blk_alloc ?_ _)); refine blk_far ?_ NB189_212.out _; (with_reducible repeat (first | refine blk_drewN ?_ _ | refine blk_drew ?_ | refine blk_alloc ?_ _)); refine blk_far ?_ NB189_212.out _; (with_reducible repeat (first | refine blk_drewN ?_ _ | refine blk_drew ?_ | refine blk_alloc ?_ _)); exact BK189.out) hb); have n1_ := Aside0.mk (blk_below (g := gb212) (o := .cells #[.int .i64 (wrap64 (t191)), .int .i64 (wrap64 (t194)), .int .i64 (wrap64 (t197)), .int .i64 (wrap64 (t200)), .int .i64 (wrap64 (x9_5)), .string x10_16] 23 (0, 0)) (by (with_reducible repeat (first | refine blk_drewN ?_ _ | refine blk_drew ?_ | refine blk_alloc ?_ _)); refine blk_put (cs := #[.int .i64 (wrap64 (t191)), .int .i64 (wrap64 (t194)), .int .i64 (wrap64 (t197)), .int .i64 (wrap64 (t200)), .int .i64 (wrap64 (x9_5)), .string (⟨#[]⟩ : ByteArray)]) ?_ 5 _ rfl; (with_reducible repeat (first | refine blk_drewN ?_ _ | refine blk_drew ?_ | refine blk_alloc ?_ _)); refine blk_put (cs := #[.int .i64 (wrap64 (t191)), .int .i64 (wrap64 (t194)), .int .i64 (wrap64 (t197)), .int .i64 (wrap64 (t200)), .int .i64 0, .string (⟨#[]⟩ : ByteArray)]) ?_ 4 _ rfl; (with_reducible repeat (first | refine blk_drewN ?_ _ | refine blk_drew ?_ | refine blk_alloc ?_ _)); refine blk_put (cs := #[.int .i64 (wrap64 (t191)), .int .i64 (wrap64 (t194)), .int .i64 (wrap64 (t197)), .int .i64 0, .int .i64 0, .string (⟨#[]⟩ : ByteArray)]) ?_ 3 _ rfl; (with_reducible repeat (first | refine blk_drewN ?_ _ | refine blk_drew ?_ | refine blk_alloc ?_ _)); refine blk_put (cs := #[.int .i64 (wrap64 (t191)), .int .i64 (wrap64 (t194)), .int .i64 0, .int .i64 0, .int .i64 0, .string (⟨#[]⟩ : ByteArray)]) ?_ 2 _ rfl; (with_reducible repeat (first | refine blk_drewN ?_ _ | refine blk_drew ?_ | refine blk_alloc ?_ _)); refine blk_put (cs := #[.int .i64 (wrap64 (t191)), .int .i64 0, .int .i64 0, .int .i64 0, .int .i64 0, .string (⟨#[]⟩ : ByteArray)]) ?_ 1 _ rfl; (with_reducible repeat (first | refine blk_drewN ?_ _ | refine blk_drew ?_ | refine blk_alloc ?_ _)); refine blk_put (cs := #[.int .i64 0, .int .i64 0, .int .i64 0, .int .i64 0, .int .i64 0, .string (⟨#[]⟩ : ByteArray)]) ?_ 0 _ rfl; (with_reducible repeat (first | refine blk_drewN ?_ _ | refine blk_drew ?_ | refine blk_alloc ?_ _)); exact BK212.out) hb); have n2_ := Aside0.mk (below_step (by repeat (first | (with_reducible first | exact HB.out | apply below_alloc | apply pw_below_drewN | apply below_drew1 | refine below_set ?_ GE189.out | refine below_set ?_ GE212.out) | exact HB.out)) hb); clear BK189; clear BK212; clear HB; have BK189 := n0_; have BK212 := n1_; have HB := n2_; clear n0_ n1_ n2_; (try clear hb); (try clear hb2); (try clear hk); (try clear hi); have hcz44_0 : w43.cell? ⟨gb189, 0, none⟩ = some (.int .i64 0) := (blk_cell BK189.out 0).trans rfl; have hcz44_1 : w43.cell? ⟨gb189, 1, none⟩ = some (.int .i64 0) := (blk_cell BK189.out 1).trans rfl; have hcz44_2 : w43.cell? ⟨gb189, 2, none⟩ = some (.int .i64 0) := (blk_cell BK189.out 2).trans rfl; have hcz44_3 : w43.cell? ⟨gb189, 3, none⟩ = some (.int .i64 0) := (blk_cell BK189.out 3).trans rfl; have hcz44_4 : w43.cell? ⟨gb189, 4, none⟩ = some (.int .i64 0) := (blk_cell BK189.out 4).trans rfl; have hcz44_5 : w43.cell? ⟨gb189, 5, none⟩ = some (.string (⟨#[]⟩ : ByteArray)) := (blk_cell BK189.out 5).trans rfl; have hfz44_0 := blk_frozen BK189.out 0; have hfz44_1 := blk_frozen BK189.out 1; have hfz44_2 := blk_frozen BK189.out 2; have hfz44_3 := blk_frozen BK189.out 3; have hfz44_4 := blk_frozen BK189.out 4; have hfz44_5 := blk_frozen BK189.out 5))
         refine bodyPost_ret (results_ct rfl _ _ gb189 23 #[.int .i64 0, .int .i64 0, .int .i64 0, .int .i64 0, .int .i64 0, .string (⟨#[]⟩ : ByteArray)] (0, 0) _ rfl (by (with_reducible repeat (first | refine blk_drewN ?_ _ | refine blk_drew ?_ | refine blk_alloc ?_ _)); refine blk_put (cs := #[.int .i64 0, .int .i64 0, .int .i64 0, .int .i64 0, .int .i64 0, .string (⟨#[]⟩ : ByteArray)]) ?_ 5 _ rfl; (with_reducible repeat (first | refine blk_drewN ?_ _ | refine blk_drew ?_ | refine blk_alloc ?_ _)); refine blk_put (cs := #[.int .i64 0, .int .i64 0, .int .i64 0, .int .i64 0, .int .i64 0, .string (⟨#[]⟩ : ByteArray)]) ?_ 4 _ rfl; (with_reducible repeat (first | refine blk_drewN ?_ _ | refine blk_drew ?_ | refine blk_alloc ?_ _)); refine blk_put (cs := #[.int .i64 0, .int .i64 0, .int .i64 0, .int .i64 0, .int .i64 0, .string (⟨#[]⟩ : ByteArray)]) ?_ 3 _ rfl; (with_reducible repeat (first | refine blk_drewN ?_ _ | refine blk_drew ?_ | refine blk_alloc ?_ _)); refine blk_put (cs := #[.int .i64 0, .int .i64 0, .int .i64 0, .int .i64 0, .int .i64 0, .string (⟨#[]⟩ : ByteArray)]) ?_ 2 _ rfl; (with_reducible repeat (first | refine blk_drewN ?_ _ | refine blk_drew ?_ | refine blk_alloc ?_ _)); refine blk_put (cs := #[.int .i64 0, .int .i64 0, .int .i64 0, .int .i64 0, .int .i64 0, .string (⟨#[]⟩ : ByteArray)]) ?_ 1 _ rfl; (with_reducible repeat (first | refine blk_drewN ?_ _ | refine blk_drew ?_ | refine blk_alloc ?_ _)); refine blk_put (cs := #[.int .i64 0, .int .i64 0, .int .i64 0, .int .i64 0, .int .i64 0, .string (⟨#[]⟩ : ByteArray)]) ?_ 0 _ rfl; (with_reducible repeat (first | refine blk_drewN ?_ _ | refine blk_drew ?_ | refine blk_alloc ?_ _)); exact BK189.out) Try.underlying23 rfl (by kernel_rfl)) rfl ?_
         exact ⟨by first | rfl | (simp [errW_none, errW_some] <;> rfl) | (simp [*, errW_none, errW_some] <;> rfl), by repeat (first | (with_reducible first | exact HB.out | apply below_alloc | apply pw_below_drewN | apply below_drew1 | refine below_set ?_ GE189.out | refine below_set ?_ GE212.out) | exact HB.out)⟩

end Go.Proofs.Ytppkdmocbhodpaa.PA
