-- WRITTEN BY a program of this session (pp.sh)
import Derived.Test.YtdkbikaheagbfaaPAx0
import Derived.Test.YtdkbikaheagbfaaPAx17
import Derived.Test.YtdkbikaheagbfaaPAx18
import Derived.Test.YtdkbikaheagbfaaPAx20
import Derived.Test.YtdkbikaheagbfaaPAx21
import Derived.Test.YtdkbikaheagbfaaPAx22
namespace Go.Proofs.Ytdkbikaheagbfaa.PA
open Go.RowKit Go.Proofs.YtdkbikaheagbfaaW.PrintWords Go.Proofs.YtdkbikaheagbfaaW.PrintLast Go.Proofs.YtdkbikaheagbfaaW.PrintMore Go.Proofs.Ytdkbikaheagbfaa.Plain
attribute [local go_sem] max2_int min2_int max_two min_two max_three min_three max_four min_four binOp_leq_s binOp_gtr_s binOp_geq_s lit_byte   -- for this text's walks alone
set_option linter.unusedVariables false
set_option linter.unusedSimpArgs false

/-! ### coppiceref06_Decode: function 25 -/
mutual
def coppiceref06_Decode.j0 : Nat → Int → Int → Bool → ByteArray → Int → Option (Bool × (List (S44)) × (List (S46)) × Int)
 | 0, _, _, _, _, _ => none
 | k + 1, x5, x6, x29, x216000, x216001 => if x29 = true then (some (false, ([] : List (S44)), ([] : List (S46)), 60)) else (coppiceref06_Decode.l0 k x6 0 x216000 x216001 (x5 == 1) ([] : List (S44)) ([] : List (S46)))
def coppiceref06_Decode.l0 : Nat → Int → Int → ByteArray → Int → Bool → List (S44) → List (S46) → Option (Bool × (List (S44)) × (List (S46)) × Int)
 | 0, _, _, _, _, _, _, _ => none
 | k + 1, x6, x8, x216000, x216001, x223000, x223001, x223002 => if x8 < (wrap64 (x6)) then (coppiceref06_Decode.j2 k x6 x8 (x216001 == 0) x216000 x216001 x223000 x223001 x223002) else (coppiceref06_Decode.j2 k x6 x8 false x216000 x216001 x223000 x223001 x223002)
def coppiceref06_Decode.j2 : Nat → Int → Int → Bool → ByteArray → Int → Bool → List (S44) → List (S46) → Option (Bool × (List (S44)) × (List (S46)) × Int)
 | 0, _, _, _, _, _, _, _, _ => none
 | k + 1, x6, x8, x42, x216000, x216001, x223000, x223001, x223002 => if x42 = true then ((coppiceref02_Reader_Text.f k x216000 x216001 272).bind fun bt223 => (if x223000 = true then ((coppiceref02_Reader_Text.f k bt223.2.1 bt223.2.2 160).bind fun bt226 => (if x223001.length < 4398046511104 then (coppiceref06_Decode.l0 k x6 (wrap64 (x8 + 1)) bt226.2.1 bt226.2.2 x223000 (x223001 ++ [(⟨bt223.1, bt226.1⟩ : S44)]) x223002) else (none))) else ((coppiceref02_Reader_Short.f k bt223.2.1 bt223.2.2).bind fun bt232 => (if bt232.1 > 4095 then (some (false, ([] : List (S44)), ([] : List (S46)), 60)) else (if x223002.length < 5864062014805 then (coppiceref06_Decode.l0 k x6 (wrap64 (x8 + 1)) bt232.2.1 bt232.2.2 x223000 x223001 (x223002 ++ [(⟨bt223.1, wrap64 (bt232.1)⟩ : S46)])) else (none)))))) else ((coppiceref02_Reader_End.f x216000 x216001).bind fun bt238 => (if bt238.1 = 0 then ((coppiceref06_Right.f k x223000 x223001 x223002).bind fun t241 => (if t241 = true then (some (x223000, x223001, x223002, 0)) else (some (false, ([] : List (S44)), ([] : List (S46)), 60)))) else (some (false, ([] : List (S44)), ([] : List (S46)), 60))))
end
def coppiceref06_Decode.f (k : Nat) (a0 : ByteArray) : Option (Bool × (List (S44)) × (List (S46)) × Int) := (coppiceref02_Reader_Byte.f a0 0).bind fun bt216 => ((coppiceref02_Reader_Short.f k bt216.2.1 bt216.2.2).bind fun bt219 => (if (a0.size : Int) > 1007 then (coppiceref06_Decode.j0 k bt216.1 bt219.1 true bt219.2.1 bt219.2.2) else (if bt216.1 = 1 then (coppiceref06_Decode.j0 k bt216.1 bt219.1 (decide (bt219.1 > 1007)) bt219.2.1 bt219.2.2) else (if bt216.1 = 2 then (coppiceref06_Decode.j0 k bt216.1 bt219.1 (decide (bt219.1 > 1007)) bt219.2.1 bt219.2.2) else (coppiceref06_Decode.j0 k bt216.1 bt219.1 true bt219.2.1 bt219.2.2)))))
theorem coppiceref06_Decode.mono_l : ∀ k, (∀ y0 y1 y2 y3 y4, LeO (coppiceref06_Decode.j0 k y0 y1 y2 y3 y4) (coppiceref06_Decode.j0 (k + 1) y0 y1 y2 y3 y4)) ∧ (∀ y0 y1 y2 y3 y4 y5 y6, LeO (coppiceref06_Decode.l0 k y0 y1 y2 y3 y4 y5 y6) (coppiceref06_Decode.l0 (k + 1) y0 y1 y2 y3 y4 y5 y6)) ∧ (∀ y0 y1 y2 y3 y4 y5 y6 y7, LeO (coppiceref06_Decode.j2 k y0 y1 y2 y3 y4 y5 y6 y7) (coppiceref06_Decode.j2 (k + 1) y0 y1 y2 y3 y4 y5 y6 y7))
 | 0 => ⟨fun _ _ _ _ _ r h => by simp [coppiceref06_Decode.j0] at h, fun _ _ _ _ _ _ _ r h => by simp [coppiceref06_Decode.l0] at h, fun _ _ _ _ _ _ _ _ r h => by simp [coppiceref06_Decode.j2] at h⟩
 | k + 1 => by
  obtain ⟨ih0, ih1, ih2⟩ := coppiceref06_Decode.mono_l k
  refine ⟨?_, ?_, ?_⟩
  ·intro y0 y1 y2 y3 y4
   unfold coppiceref06_Decode.j0
   repeat' first
   | (with_reducible exact ih0 _ _ _ _ _)
   | (with_reducible exact ih1 _ _ _ _ _ _ _)
   | (with_reducible exact ih2 _ _ _ _ _ _ _ _)
   | (with_reducible exact coppiceref02_Reader_Short.mono _ _ _)
   | (with_reducible exact coppiceref02_Reader_Text.mono _ _ _ _)
   | (with_reducible exact coppiceref06_Right.mono _ _ _ _)
   | (with_reducible exact LeO.refl _)
   | (with_reducible exact LeO.none _)
   | (with_reducible refine LeO.ite ?_ ?_)
   | (with_reducible refine LeO.bind ?_ (fun _ => ?_))
   | exact ih0 _ _ _ _ _
   | exact ih1 _ _ _ _ _ _ _
   | exact ih2 _ _ _ _ _ _ _ _
   | exact coppiceref02_Reader_Short.mono _ _ _
   | exact coppiceref02_Reader_Text.mono _ _ _ _
   | exact coppiceref06_Right.mono _ _ _ _
   | exact LeO.none _
   | refine LeO.ite ?_ ?_
   | refine LeO.bind ?_ (fun _ => ?_)
  ·intro y0 y1 y2 y3 y4 y5 y6
   unfold coppiceref06_Decode.l0
   repeat' first
   | (with_reducible exact ih0 _ _ _ _ _)
   | (with_reducible exact ih1 _ _ _ _ _ _ _)
   | (with_reducible exact ih2 _ _ _ _ _ _ _ _)
   | (with_reducible exact coppiceref02_Reader_Short.mono _ _ _)
   | (with_reducible exact coppiceref02_Reader_Text.mono _ _ _ _)
   | (with_reducible exact coppiceref06_Right.mono _ _ _ _)
   | (with_reducible exact LeO.refl _)
   | (with_reducible exact LeO.none _)
   | (with_reducible refine LeO.ite ?_ ?_)
   | (with_reducible refine LeO.bind ?_ (fun _ => ?_))
   | exact ih0 _ _ _ _ _
   | exact ih1 _ _ _ _ _ _ _
   | exact ih2 _ _ _ _ _ _ _ _
   | exact coppiceref02_Reader_Short.mono _ _ _
   | exact coppiceref02_Reader_Text.mono _ _ _ _
   | exact coppiceref06_Right.mono _ _ _ _
   | exact LeO.none _
   | refine LeO.ite ?_ ?_
   | refine LeO.bind ?_ (fun _ => ?_)
  ·intro y0 y1 y2 y3 y4 y5 y6 y7
   unfold coppiceref06_Decode.j2
   repeat' first
   | (with_reducible exact ih0 _ _ _ _ _)
   | (with_reducible exact ih1 _ _ _ _ _ _ _)
   | (with_reducible exact ih2 _ _ _ _ _ _ _ _)
   | (with_reducible exact coppiceref02_Reader_Short.mono _ _ _)
   | (with_reducible exact coppiceref02_Reader_Text.mono _ _ _ _)
   | (with_reducible exact coppiceref06_Right.mono _ _ _ _)
   | (with_reducible exact LeO.refl _)
   | (with_reducible exact LeO.none _)
   | (with_reducible refine LeO.ite ?_ ?_)
   | (with_reducible refine LeO.bind ?_ (fun _ => ?_))
   | exact ih0 _ _ _ _ _
   | exact ih1 _ _ _ _ _ _ _
   | exact ih2 _ _ _ _ _ _ _ _
   | exact coppiceref02_Reader_Short.mono _ _ _
   | exact coppiceref02_Reader_Text.mono _ _ _ _
   | exact coppiceref06_Right.mono _ _ _ _
   | exact LeO.none _
   | refine LeO.ite ?_ ?_
   | refine LeO.bind ?_ (fun _ => ?_)
theorem coppiceref06_Decode.mono : ∀ a0 k, LeO (coppiceref06_Decode.f k a0) (coppiceref06_Decode.f (k + 1) a0) := by
 intro a0 k
 obtain ⟨ih0, ih1, ih2⟩ := coppiceref06_Decode.mono_l k
 unfold coppiceref06_Decode.f
 repeat' first
   | (with_reducible exact ih0 _ _ _ _ _)
   | (with_reducible exact ih1 _ _ _ _ _ _ _)
   | (with_reducible exact ih2 _ _ _ _ _ _ _ _)
   | (with_reducible exact coppiceref02_Reader_Short.mono _ _ _)
   | (with_reducible exact coppiceref02_Reader_Text.mono _ _ _ _)
   | (with_reducible exact coppiceref06_Right.mono _ _ _ _)
   | (with_reducible exact LeO.refl _)
   | (with_reducible exact LeO.none _)
   | (with_reducible refine LeO.ite ?_ ?_)
   | (with_reducible refine LeO.bind ?_ (fun _ => ?_))
   | exact ih0 _ _ _ _ _
   | exact ih1 _ _ _ _ _ _ _
   | exact ih2 _ _ _ _ _ _ _ _
   | exact coppiceref02_Reader_Short.mono _ _ _
   | exact coppiceref02_Reader_Text.mono _ _ _ _
   | exact coppiceref06_Right.mono _ _ _ _
   | exact LeO.none _
   | refine LeO.ite ?_ ?_
   | refine LeO.bind ?_ (fun _ => ?_)
def coppiceref06_Decode.T12 : Bool × List (List Nat × List Nat) := (true, [([], []), ([0], [0]), ([], []), ([], []), ([2, 3], [2, 3]), ([4], [4]), ([1, 5, 3], [1, 5]), ([0, 1, 2, 3, 4, 5, 6], []), ([7, 6, 6, 0, 1, 2, 3, 4, 5, 6], [6, 7])])
def coppiceref06_Decode.B12 : List Nat := [0, 1, 0, 0, 12, 28, 63, 127, 255]
theorem coppiceref06_Decode.tab12 : rtab .any (opsOf Try.f25 12) = coppiceref06_Decode.T12 := by kernel_rfl
theorem coppiceref06_Decode.bits12 : waitsOk coppiceref06_Decode.T12.2 coppiceref06_Decode.B12 = true := by kernel_rfl
set_option maxHeartbeats 8000000 in
set_option maxRecDepth 100000 in
theorem coppiceref06_Decode.calls (k : Nat) (a0 : ByteArray) (r1 : Bool) (r2 : List (S44)) (r3 : List (S46)) (r4 : Int) (w : World) (h : coppiceref06_Decode.f k a0 = some (r1, r2, r3, r4)) :
  Calls Try.prog 25 #[.string a0] w fun e w' => ∃ v1_ v2_ : Value, e = .returned (.tuple #[.agg #[.bool r1, v1_, v2_], .int .i64 r4]) ∧ Kd.R k44 44 w' w.heap.size (fun _ => True) v1_ r2 ∧ Kd.R k46 46 w' w.heap.size (fun _ => True) v2_ r3 ∧ Below w.heap.size w w' := by
 have hu25 := Try.underlying25
 have hu69 := Try.underlying69
 have hu44 := Try.underlying44
 have hu46 := Try.underlying46
 have HB := Aside0.mk (Below.refl w.heap.size w)
 have H : ((coppiceref02_Reader_Byte.f a0 0).bind fun bt216 => ((coppiceref02_Reader_Short.f k bt216.2.1 bt216.2.2).bind fun bt219 => (if (a0.size : Int) > 1007 then (coppiceref06_Decode.j0 k bt216.1 bt219.1 true bt219.2.1 bt219.2.2) else (if bt216.1 = 1 then (coppiceref06_Decode.j0 k bt216.1 bt219.1 (decide (bt219.1 > 1007)) bt219.2.1 bt219.2.2) else (if bt216.1 = 2 then (coppiceref06_Decode.j0 k bt216.1 bt219.1 (decide (bt219.1 > 1007)) bt219.2.1 bt219.2.2) else (coppiceref06_Decode.j0 k bt216.1 bt219.1 true bt219.2.1 bt219.2.2)))))) = some (r1, r2, r3, r4) := h
 clear h
 replace H := Option.bind_eq_some_iff.mp H
 obtain ⟨⟨t216, t217, t218⟩, A20, H⟩ := H
 replace H : ((coppiceref02_Reader_Short.f k t217 t218).bind fun bt219 => (if (a0.size : Int) > 1007 then (coppiceref06_Decode.j0 k t216 bt219.1 true bt219.2.1 bt219.2.2) else (if t216 = 1 then (coppiceref06_Decode.j0 k t216 bt219.1 (decide (bt219.1 > 1007)) bt219.2.1 bt219.2.2) else (if t216 = 2 then (coppiceref06_Decode.j0 k t216 bt219.1 (decide (bt219.1 > 1007)) bt219.2.1 bt219.2.2) else (coppiceref06_Decode.j0 k t216 bt219.1 true bt219.2.1 bt219.2.2))))) = some (r1, r2, r3, r4) := H
 have A2 := Aside0.mk A20
 clear A20
 replace H := Option.bind_eq_some_iff.mp H
 obtain ⟨⟨t219, t220, t221⟩, A30, H⟩ := H
 replace H : (if (a0.size : Int) > 1007 then (coppiceref06_Decode.j0 k t216 t219 true t220 t221) else (if t216 = 1 then (coppiceref06_Decode.j0 k t216 t219 (decide (t219 > 1007)) t220 t221) else (if t216 = 2 then (coppiceref06_Decode.j0 k t216 t219 (decide (t219 > 1007)) t220 t221) else (coppiceref06_Decode.j0 k t216 t219 true t220 t221)))) = some (r1, r2, r3, r4) := H
 have A3 := Aside0.mk A30
 clear A30
 have HC4 := Aside0.mk H
 clear H
 go_enter Try.func25, Try.ntmps25
 go_upto_region 4 with (first | ((with_reducible refine gate_dst (N := 2) rfl ?_); refine box_event ?hg (N := 2) ?hd (cs := #[.bool false, .slice none 0 0, .slice none 0 0]) (t := 25) ?hr ?_; (case hd => rfl); (case hg => rfl); (case hr => first | (go_simp; done) | (go_simp; rfl)); intro gb214 hg w5 hbox hb; have n0_ := Aside0.mk (below_step (by repeat (first | (with_reducible first | exact HB.out | apply below_alloc | apply pw_below_drewN | apply below_drew1) | exact HB.out)) hb); have n1_ := Aside0.mk (hbox); have n2_ := Aside0.mk ((by rw [hg]; exact (below_size (by repeat (first | (with_reducible first | exact HB.out | apply below_alloc | apply pw_below_drewN | apply below_drew1) | exact HB.out))) : w.heap.size ≤ gb214)); have n3_ := Aside0.mk ((by rw [hg]; exact (below_size (by repeat (first | (with_reducible first | exact HB.out | apply below_alloc | apply pw_below_drewN | apply below_drew1) | exact HB.out))) : w.heap.size ≤ gb214)); clear HB; have HB := n0_; have BK214 := n1_; have GW214 := n2_; have GE214 := n3_; clear n0_ n1_ n2_ n3_; clear hb hbox hg) | ((with_reducible refine gate_dst (N := 4) rfl ?_); refine box_event ?hg (N := 4) ?hd (cs := #[.string (⟨#[]⟩ : ByteArray), .int .i64 0]) (t := 69) ?hr ?_; (case hd => rfl); (case hg => rfl); (case hr => first | (go_simp; done) | (go_simp; rfl)); intro gb215 hg w6 hbox hb; have n0_ := Aside0.mk (blk_below (g := gb214) (o := .cells #[.bool false, .slice none 0 0, .slice none 0 0] 25 (0, 0)) (by (with_reducible repeat (first | refine blk_drewN ?_ _ | refine blk_drew ?_ | refine blk_alloc ?_ _)); exact BK214.out) hb); have n1_ := Aside0.mk (below_step (by repeat (first | (with_reducible first | exact HB.out | apply below_alloc | apply pw_below_drewN | apply below_drew1 | refine below_set ?_ GE214.out) | exact HB.out)) hb); have n2_ := Aside0.mk ((show IsS69 w _ gb215 (⟨#[]⟩ : ByteArray) 0 from ⟨hbox, (by rw [hg]; exact (below_size (by repeat (first | (with_reducible first | exact HB.out | apply below_alloc | apply pw_below_drewN | apply below_drew1 | refine below_set ?_ GE214.out) | exact HB.out))) : w.heap.size ≤ gb215)⟩)); have n3_ := Aside0.mk ((by rw [hg]; exact (below_size (by repeat (first | (with_reducible first | exact HB.out | apply below_alloc | apply pw_below_drewN | apply below_drew1 | refine below_set ?_ GE214.out) | exact HB.out))) : w.heap.size ≤ gb215)); have n4_ := Aside0.mk ((by rw [hg]; exact (below_size (by repeat (first | (with_reducible first | exact HB.out | apply below_alloc | apply pw_below_drewN | apply below_drew1 | refine below_set ?_ GE214.out) | exact HB.out))) : w.heap.size ≤ gb215)); have n5_ := Aside0.mk ((by rw [hg]; exact Nat.ne_of_lt (blk_lt (g := gb214) (o := .cells #[.bool false, .slice none 0 0, .slice none 0 0] 25 (0, 0)) (by (with_reducible repeat (first | refine blk_drewN ?_ _ | refine blk_drew ?_ | refine blk_alloc ?_ _)); exact BK214.out)) : gb214 ≠ gb215)); have n6_ := Aside0.mk ((by rw [hg]; exact Nat.ne_of_gt (blk_lt (g := gb214) (o := .cells #[.bool false, .slice none 0 0, .slice none 0 0] 25 (0, 0)) (by (with_reducible repeat (first | refine blk_drewN ?_ _ | refine blk_drew ?_ | refine blk_alloc ?_ _)); exact BK214.out)) : gb215 ≠ gb214)); clear BK214; clear HB; have BK214 := n0_; have HB := n1_; have HI215 := n2_; have GW215 := n3_; have GE215 := n4_; have NB214_215 := n5_; have NB215_214 := n6_; clear n0_ n1_ n2_ n3_ n4_ n5_ n6_; clear hb hbox hg; obtain ⟨HGz7, hgz7⟩ := HI215.out; have hcz7_0 := cellS69_0 HGz7; have hcz7_1 := cellS69_1 HGz7; have hfz7_0 := blk_frozen HGz7 0; have hfz7_1 := blk_frozen HGz7 1; clear HGz7 hgz7) | ((with_reducible refine gate_callee (f := 44) rfl ?_); refine goesL_ (some 13) rfl rfl Try.func44 (by kernel_rfl) rfl #[.pointer (some ⟨gb215, 0, none⟩)] rfl (by (try simp only [List.map_toArray, List.map_cons, List.map_nil]); first | done | rfl | (simp only [List.length_drop, List.length_take]; rfl)) ?_; (with_reducible refine (coppiceref02_Reader_Byte.calls gb215 a0 0 t216 t217 t218 w _ ?side1 ?side2 A2.out).mono ?_); (case side1 => repeat (first | (with_reducible first | exact HI215.out | apply IsS69.alloc | apply IsS69.drewN | apply IsS69.drew | apply IsS69.set_0 | apply IsS69.set_1 | refine IsS69.far ?_ NB215_214.out _) | exact HI215.out)); (case side2 => repeat (first | (with_reducible first | exact HB.out | apply below_alloc | apply pw_below_drewN | apply below_drew1 | refine below_set ?_ (IsS69.ge HI215.out) | refine below_set ?_ GE214.out) | exact HB.out)); rintro e w8 ⟨rfl, hi, hb, hk⟩; refine ⟨_, rfl, ?_⟩; have n0_ := Aside0.mk (KeepBut.blk hk (g' := gb214) (o := .cells #[.bool false, .slice none 0 0, .slice none 0 0] 25 (0, 0)) (by (with_reducible repeat (first | refine blk_drewN ?_ _ | refine blk_drew ?_ | refine blk_alloc ?_ _)); refine blk_far ?_ NB214_215.out _; (with_reducible repeat (first | refine blk_drewN ?_ _ | refine blk_drew ?_ | refine blk_alloc ?_ _)); refine blk_far ?_ NB214_215.out _; (with_reducible repeat (first | refine blk_drewN ?_ _ | refine blk_drew ?_ | refine blk_alloc ?_ _)); exact BK214.out) NB214_215.out (by simp)); have n1_ := Aside0.mk (hb); have n2_ := Aside0.mk (hi); clear BK214; clear HB; clear HI215; have BK214 := n0_; have HB := n1_; have HI215 := n2_; clear n0_ n1_ n2_; (try clear hb); (try clear hb2); (try clear hk); (try clear hi)) | ((with_reducible refine gate_callee (f := 45) rfl ?_); refine goesL_ (some 14) rfl rfl Try.func45 (by kernel_rfl) rfl #[.pointer (some ⟨gb215, 0, none⟩)] rfl (by (try simp only [List.map_toArray, List.map_cons, List.map_nil]); first | done | rfl | (simp only [List.length_drop, List.length_take]; rfl)) ?_; (with_reducible refine (coppiceref02_Reader_Short.calls k gb215 t217 t218 t219 t220 t221 w _ ?side1 ?side2 A3.out).mono ?_); (case side1 => repeat (first | (with_reducible first | exact HI215.out | apply IsS69.alloc | apply IsS69.drewN | apply IsS69.drew | apply IsS69.set_0 | apply IsS69.set_1 | refine IsS69.far ?_ NB215_214.out _) | exact HI215.out)); (case side2 => repeat (first | (with_reducible first | exact HB.out | apply below_alloc | apply pw_below_drewN | apply below_drew1 | refine below_set ?_ (IsS69.ge HI215.out) | refine below_set ?_ GE214.out) | exact HB.out)); rintro e w9 ⟨rfl, hi, hb, hk⟩; refine ⟨_, rfl, ?_⟩; have n0_ := Aside0.mk (KeepBut.blk hk (g' := gb214) (o := .cells #[.bool false, .slice none 0 0, .slice none 0 0] 25 (0, 0)) (by (with_reducible repeat (first | refine blk_drewN ?_ _ | refine blk_drew ?_ | refine blk_alloc ?_ _)); exact BK214.out) NB214_215.out (by simp)); have n1_ := Aside0.mk (hb); have n2_ := Aside0.mk (hi); clear BK214; clear HB; clear HI215; have BK214 := n0_; have HB := n1_; have HI215 := n2_; clear n0_ n1_ n2_; (try clear hb); (try clear hb2); (try clear hk); (try clear hi)))
 (try simp only [Act.put, List.setIfInBounds_toArray, List.set_cons_zero, List.set_cons_succ])
 go_cut [29] (fun v29 wc => ∃ (kq : Nat) (x29_3 : Bool), v29 = .bool x29_3 ∧ Aside0 (coppiceref06_Decode.j0 kq t216 t219 x29_3 t220 t221 = some (r1, r2, r3, r4)) ∧ Aside0 (kq ≤ k) ∧ Aside0 (wc.heap[gb214]? = some (.cells #[.bool false, (.slice none 0 0), (.slice none 0 0)] 25 (0, 0))) ∧ Aside0 (IsS69 w wc gb215 t220 t221) ∧ Aside0 (Below w.heap.size w wc))
 case first =>
  have H := HC4.out
  clear HC4
  by_cases c10 : (a0.size : Int) > 1007
  ·rw [if_pos c10] at H
   have c10b0 : decide (1007 < (a0.size : Int)) = true := decide_eq_true c10
   have c10b1 : decide (1007 < a0.size) = true := decide_eq_true (by omega)
   clear c10
   (first | rw [c10b0] | (simp only [i64_w, i32_w]; rw [c10b0]) | skip)
   have H' := Aside0.mk H
   clear H
   go_wp2
   go_meet
   case rel => exact ⟨_, (true), (by first | rfl | (simp; done) | (simp [*]; done)), H', ⟨by first | omega | exact Nat.le_refl _⟩, ⟨by (with_reducible repeat (first | refine blk_drewN ?_ _ | refine blk_drew ?_ | refine blk_alloc ?_ _)); exact BK214.out⟩, ⟨by repeat (first | (with_reducible first | exact HI215.out | apply IsS69.alloc | apply IsS69.drewN | apply IsS69.drew | apply IsS69.set_0 | apply IsS69.set_1 | refine IsS69.far ?_ NB215_214.out _) | exact HI215.out)⟩, ⟨by repeat (first | (with_reducible first | exact HB.out | apply below_alloc | apply pw_below_drewN | apply below_drew1 | refine below_set ?_ (IsS69.ge HI215.out) | refine below_set ?_ GE214.out) | exact HB.out)⟩⟩
  ·rw [if_neg c10] at H
   have c10b0 : decide (1007 < (a0.size : Int)) = false := decide_eq_false c10
   have c10b1 : decide (1007 < a0.size) = false := decide_eq_false (by omega)
   clear c10
   (first | rw [c10b0] | (simp only [i64_w, i32_w]; rw [c10b0]) | skip)
   by_cases c11 : t216 = 1
   ·rw [if_pos c11] at H
    have c11b0 : (t216 == 1) = true := beq_iff_eq.mpr c11
    have c11b1 : (t216 != 1) = false := bne_eq_false_iff_eq.mpr c11
    clear c11
    have H' := Aside0.mk H
    clear H
    go_wp2
    go_meet
    case rel => exact ⟨_, (decide (t219 > 1007)), (by first | rfl | (simp; done) | (simp [*]; done)), H', ⟨by first | omega | exact Nat.le_refl _⟩, ⟨by (with_reducible repeat (first | refine blk_drewN ?_ _ | refine blk_drew ?_ | refine blk_alloc ?_ _)); exact BK214.out⟩, ⟨by repeat (first | (with_reducible first | exact HI215.out | apply IsS69.alloc | apply IsS69.drewN | apply IsS69.drew | apply IsS69.set_0 | apply IsS69.set_1 | refine IsS69.far ?_ NB215_214.out _) | exact HI215.out)⟩, ⟨by repeat (first | (with_reducible first | exact HB.out | apply below_alloc | apply pw_below_drewN | apply below_drew1 | refine below_set ?_ (IsS69.ge HI215.out) | refine below_set ?_ GE214.out) | exact HB.out)⟩⟩
   ·rw [if_neg c11] at H
    have c11b0 : (t216 == 1) = false := beq_eq_false_iff_ne.mpr c11
    have c11b1 : (t216 != 1) = true := bne_iff_ne.mpr c11
    by_cases c12 : t216 = 2
    ·rw [if_pos c12] at H
     have c12b0 : (t216 == 2) = true := beq_iff_eq.mpr c12
     have c12b1 : (t216 != 2) = false := bne_eq_false_iff_eq.mpr c12
     clear c12
     have H' := Aside0.mk H
     clear H
     go_wp2
     go_meet
     case rel => exact ⟨_, (decide (t219 > 1007)), (by first | rfl | (simp; done) | (simp [*]; done)), H', ⟨by first | omega | exact Nat.le_refl _⟩, ⟨by (with_reducible repeat (first | refine blk_drewN ?_ _ | refine blk_drew ?_ | refine blk_alloc ?_ _)); exact BK214.out⟩, ⟨by repeat (first | (with_reducible first | exact HI215.out | apply IsS69.alloc | apply IsS69.drewN | apply IsS69.drew | apply IsS69.set_0 | apply IsS69.set_1 | refine IsS69.far ?_ NB215_214.out _) | exact HI215.out)⟩, ⟨by repeat (first | (with_reducible first | exact HB.out | apply below_alloc | apply pw_below_drewN | apply below_drew1 | refine below_set ?_ (IsS69.ge HI215.out) | refine below_set ?_ GE214.out) | exact HB.out)⟩⟩
    ·rw [if_neg c12] at H
     have c12b0 : (t216 == 2) = false := beq_eq_false_iff_ne.mpr c12
     have c12b1 : (t216 != 2) = true := bne_iff_ne.mpr c12
     have H' := Aside0.mk H
     clear H
     go_wp2
     go_meet
     case rel => exact ⟨_, (true), (by first | rfl | (simp; done) | (simp [*]; done)), H', ⟨by first | omega | exact Nat.le_refl _⟩, ⟨by (with_reducible repeat (first | refine blk_drewN ?_ _ | refine blk_drew ?_ | refine blk_alloc ?_ _)); exact BK214.out⟩, ⟨by repeat (first | (with_reducible first | exact HI215.out | apply IsS69.alloc | apply IsS69.drewN | apply IsS69.drew | apply IsS69.set_0 | apply IsS69.set_1 | refine IsS69.far ?_ NB215_214.out _) | exact HI215.out)⟩, ⟨by repeat (first | (with_reducible first | exact HB.out | apply below_alloc | apply pw_below_drewN | apply below_drew1 | refine below_set ?_ (IsS69.ge HI215.out) | refine below_set ?_ GE214.out) | exact HB.out)⟩⟩
 case rest =>
  clear HC4
  try clear c1
  try clear c2
  try clear p2
  try clear c4
  try clear c10
  try clear c10b0
  try clear c10b1
  try clear c11
  try clear c11b0
  try clear c11b1
  try clear c12
  try clear c12b0
  try clear c12b1
  try clear hcz7_0
  try clear hcz7_1
  try clear hfz7_0
  try clear hfz7_1
  obtain ⟨kq, x29_3, rfl, HA, HJ3, BK214, HI215, HB⟩ := hcut
  cases kq with
  | zero => exact absurd HA.out (by simp [coppiceref06_Decode.j0])
  | succ kj3 =>
   have H := HA.out
   clear HA
   simp only [coppiceref06_Decode.j0] at H
   by_cases c13 : x29_3 = true
   ·subst c13
    have H1 : (some (false, ([] : List (S44)), ([] : List (S46)), 60)) = some (r1, r2, r3, r4) := by rw [if_pos rfl] at H; exact H
    clear H
    have H := H1
    clear H1
    simp only [Option.some.injEq, Prod.mk.injEq] at H
    obtain ⟨rfl, rfl, rfl, rfl⟩ := H
    have hnb14 := NB214_215.out
    have hnc14 := NB215_214.out
    have hcz15_0 : wc.cell? ⟨gb214, 0, none⟩ = some (.bool false) := (blk_cell BK214.out 0).trans rfl
    have hcz15_1 : wc.cell? ⟨gb214, 1, none⟩ = some (.slice none 0 0) := (blk_cell BK214.out 1).trans rfl
    have hcz15_2 : wc.cell? ⟨gb214, 2, none⟩ = some (.slice none 0 0) := (blk_cell BK214.out 2).trans rfl
    have hfz15_0 := blk_frozen BK214.out 0
    have hfz15_1 := blk_frozen BK214.out 1
    have hfz15_2 := blk_frozen BK214.out 2
    go_wp2
    refine bodyPost_ret (results_ct rfl _ _ gb214 25 #[.bool false, .slice none 0 0, .slice none 0 0] (0, 0) _ rfl (by (with_reducible repeat (first | refine blk_drewN ?_ _ | refine blk_drew ?_ | refine blk_alloc ?_ _)); refine blk_put (cs := #[.bool false, .slice none 0 0, .slice none 0 0]) ?_ 2 _ rfl; (with_reducible repeat (first | refine blk_drewN ?_ _ | refine blk_drew ?_ | refine blk_alloc ?_ _)); refine blk_put (cs := #[.bool false, .slice none 0 0, .slice none 0 0]) ?_ 1 _ rfl; (with_reducible repeat (first | refine blk_drewN ?_ _ | refine blk_drew ?_ | refine blk_alloc ?_ _)); refine blk_put (cs := #[.bool false, .slice none 0 0, .slice none 0 0]) ?_ 0 _ rfl; (with_reducible repeat (first | refine blk_drewN ?_ _ | refine blk_drew ?_ | refine blk_alloc ?_ _)); exact BK214.out) Try.underlying25 rfl (by kernel_rfl)) rfl ?_
    exact ⟨_, _, by first | rfl | (simp [errW_none, errW_some] <;> rfl) | (simp [*, errW_none, errW_some] <;> rfl), by first | exact Kd.R_nil _ _ _ _ _ | exact Kd.N_nil _ _ _ _ _ | exact Kd.V_nil _ _ _ _ _ | exact Kd.Q_nil _ _ _ _ _ | exact Kd.S_nil _ _ _ _ _, by first | exact Kd.R_nil _ _ _ _ _ | exact Kd.N_nil _ _ _ _ _ | exact Kd.V_nil _ _ _ _ _ | exact Kd.Q_nil _ _ _ _ _ | exact Kd.S_nil _ _ _ _ _, by repeat (first | (with_reducible first | exact HB.out | apply below_alloc | apply pw_below_drewN | apply below_drew1 | refine below_set ?_ (IsS69.ge HI215.out) | refine below_set ?_ GE214.out) | exact HB.out)⟩
   ·replace c13 := Bool.eq_false_iff.mpr c13
    subst c13
    have H1 : (coppiceref06_Decode.l0 kj3 t219 0 t220 t221 (t216 == 1) ([] : List (S44)) ([] : List (S46))) = some (r1, r2, r3, r4) := by rw [if_neg (show ¬ (false = true) by decide)] at H; exact H
    clear H
    have H := H1
    clear H1
    have H' := Aside0.mk H
    clear H
    go_wp2_with (first | ((with_reducible refine gate_dst (N := 7) rfl ?_); refine box_event ?hg (N := 7) ?hd (cs := #[.bool false, .slice none 0 0, .slice none 0 0]) (t := 25) ?hr ?_; (case hd => rfl); (case hg => rfl); (case hr => first | (go_simp; done) | (go_simp; rfl)); intro gb222 hg w16 hbox hb; have n0_ := Aside0.mk (blk_below (g := gb214) (o := .cells #[.bool false, .slice none 0 0, .slice none 0 0] 25 (0, 0)) (by (with_reducible repeat (first | refine blk_drewN ?_ _ | refine blk_drew ?_ | refine blk_alloc ?_ _)); exact BK214.out) hb); have n1_ := Aside0.mk (IsS69.below (by repeat (first | (with_reducible first | exact HI215.out | apply IsS69.alloc | apply IsS69.drewN | apply IsS69.drew | apply IsS69.set_0 | apply IsS69.set_1 | refine IsS69.far ?_ NB215_214.out _) | exact HI215.out)) hb); have n2_ := Aside0.mk (below_step (by repeat (first | (with_reducible first | exact HB.out | apply below_alloc | apply pw_below_drewN | apply below_drew1 | refine below_set ?_ (IsS69.ge HI215.out) | refine below_set ?_ GE214.out) | exact HB.out)) hb); have n3_ := Aside0.mk (hbox); have n4_ := Aside0.mk ((by rw [hg]; exact (below_size (by repeat (first | (with_reducible first | exact HB.out | apply below_alloc | apply pw_below_drewN | apply below_drew1 | refine below_set ?_ (IsS69.ge HI215.out) | refine below_set ?_ GE214.out) | exact HB.out))) : w.heap.size ≤ gb222)); have n5_ := Aside0.mk ((by rw [hg]; exact (below_size (by repeat (first | (with_reducible first | exact HB.out | apply below_alloc | apply pw_below_drewN | apply below_drew1 | refine below_set ?_ (IsS69.ge HI215.out) | refine below_set ?_ GE214.out) | exact HB.out))) : w.heap.size ≤ gb222)); have n6_ := Aside0.mk ((by rw [hg]; exact Nat.ne_of_lt (blk_lt (g := gb214) (o := .cells #[.bool false, .slice none 0 0, .slice none 0 0] 25 (0, 0)) (by (with_reducible repeat (first | refine blk_drewN ?_ _ | refine blk_drew ?_ | refine blk_alloc ?_ _)); exact BK214.out)) : gb214 ≠ gb222)); have n7_ := Aside0.mk ((by rw [hg]; exact Nat.ne_of_gt (blk_lt (g := gb214) (o := .cells #[.bool false, .slice none 0 0, .slice none 0 0] 25 (0, 0)) (by (with_reducible repeat (first | refine blk_drewN ?_ _ | refine blk_drew ?_ | refine blk_alloc ?_ _)); exact BK214.out)) : gb222 ≠ gb214)); have n8_ := Aside0.mk ((by rw [hg]; exact Nat.ne_of_lt (IsS69.lt (show IsS69 w _ gb215 t220 t221 from by repeat (first | (with_reducible first | exact HI215.out | apply IsS69.alloc | apply IsS69.drewN | apply IsS69.drew | apply IsS69.set_0 | apply IsS69.set_1 | refine IsS69.far ?_ NB215_214.out _) | exact HI215.out))) : gb215 ≠ gb222)); have n9_ := Aside0.mk ((by rw [hg]; exact Nat.ne_of_gt (IsS69.lt (show IsS69 w _ gb215 t220 t221 from by repeat (first | (with_reducible first | exact HI215.out | apply IsS69.alloc | apply IsS69.drewN | apply IsS69.drew | apply IsS69.set_0 | apply IsS69.set_1 | refine IsS69.far ?_ NB215_214.out _) | exact HI215.out))) : gb222 ≠ gb215)); clear BK214; clear HI215; clear HB; have BK214 := n0_; have HI215 := n1_; have HB := n2_; have BK222 := n3_; have GW222 := n4_; have GE222 := n5_; have NB214_222 := n6_; have NB222_214 := n7_; have NB215_222 := n8_; have NB222_215 := n9_; clear n0_ n1_ n2_ n3_ n4_ n5_ n6_ n7_ n8_ n9_; clear hb hbox hg; have hnb17 := NB222_214.out; have hnc17 := NB214_222.out; have hnb18 := NB222_215.out; have hnc18 := NB215_222.out; have hcz19_0 : w16.cell? ⟨gb222, 0, none⟩ = some (.bool false) := (blk_cell BK222.out 0).trans rfl; have hcz19_1 : w16.cell? ⟨gb222, 1, none⟩ = some (.slice none 0 0) := (blk_cell BK222.out 1).trans rfl; have hcz19_2 : w16.cell? ⟨gb222, 2, none⟩ = some (.slice none 0 0) := (blk_cell BK222.out 2).trans rfl; have hfz19_0 := blk_frozen BK222.out 0; have hfz19_1 := blk_frozen BK222.out 1; have hfz19_2 := blk_frozen BK222.out 2))
    go_loopg [8] kj3 (fun kq v8 w' => ∃ (x8_2 : Int) (x215000_2 : Bool) (x216000_2 : ByteArray) (x216001_2 : Int) (x223000_2 : Bool) (x223001_2 : List (S44)) (x223002_2 : List (S46)) (u223001 : Value) (u223002 : Value), v8 = .int .i64 x8_2 ∧ Aside0 (coppiceref06_Decode.l0 kq t219 x8_2 x216000_2 x216001_2 x223000_2 x223001_2 x223002_2 = some (r1, r2, r3, r4)) ∧ Aside0 (kq ≤ kj3) ∧ Aside0 (Kd.R k44 44 w' w.heap.size (fun _ => True) u223001 x223001_2) ∧ Aside0 (Kd.R k46 46 w' w.heap.size (fun _ => True) u223002 x223002_2) ∧ Aside0 (w'.heap[gb214]? = some (.cells #[.bool x215000_2, (.slice none 0 0), (.slice none 0 0)] 25 (0, 0))) ∧ Aside0 (w'.heap[gb222]? = some (.cells #[.bool x223000_2, u223001, u223002] 25 (0, 0))) ∧ Aside0 (IsS69 w w' gb215 x216000_2 x216001_2) ∧ Aside0 (Below w.heap.size w w'))
    case atStart => exact ⟨(0), (false), (t220), (t221), ((t216 == 1)), (([] : List (S44))), (([] : List (S46))), (.slice none 0 0), (.slice none 0 0), (by first | rfl | (simp; done) | (simp [*]; done)), H', ⟨Nat.le_refl _⟩, ⟨by first | exact Kd.R_nil _ _ _ _ _ | exact Kd.N_nil _ _ _ _ _ | exact Kd.V_nil _ _ _ _ _ | exact Kd.Q_nil _ _ _ _ _ | exact Kd.S_nil _ _ _ _ _⟩, ⟨by first | exact Kd.R_nil _ _ _ _ _ | exact Kd.N_nil _ _ _ _ _ | exact Kd.V_nil _ _ _ _ _ | exact Kd.Q_nil _ _ _ _ _ | exact Kd.S_nil _ _ _ _ _⟩, ⟨by (with_reducible repeat (first | refine blk_drewN ?_ _ | refine blk_drew ?_ | refine blk_alloc ?_ _)); refine blk_far ?_ NB214_222.out _; (with_reducible repeat (first | refine blk_drewN ?_ _ | refine blk_drew ?_ | refine blk_alloc ?_ _)); refine blk_far ?_ NB214_222.out _; (with_reducible repeat (first | refine blk_drewN ?_ _ | refine blk_drew ?_ | refine blk_alloc ?_ _)); refine blk_far ?_ NB214_222.out _; (with_reducible repeat (first | refine blk_drewN ?_ _ | refine blk_drew ?_ | refine blk_alloc ?_ _)); exact BK214.out⟩, ⟨by (with_reducible repeat (first | refine blk_drewN ?_ _ | refine blk_drew ?_ | refine blk_alloc ?_ _)); refine blk_put (cs := #[.bool (t216 == 1), .slice none 0 0, .slice none 0 0]) ?_ 2 _ rfl; (with_reducible repeat (first | refine blk_drewN ?_ _ | refine blk_drew ?_ | refine blk_alloc ?_ _)); refine blk_put (cs := #[.bool (t216 == 1), .slice none 0 0, .slice none 0 0]) ?_ 1 _ rfl; (with_reducible repeat (first | refine blk_drewN ?_ _ | refine blk_drew ?_ | refine blk_alloc ?_ _)); refine blk_put (cs := #[.bool false, .slice none 0 0, .slice none 0 0]) ?_ 0 _ rfl; (with_reducible repeat (first | refine blk_drewN ?_ _ | refine blk_drew ?_ | refine blk_alloc ?_ _)); exact BK222.out⟩, ⟨by repeat (first | (with_reducible first | exact HI215.out | apply IsS69.alloc | apply IsS69.drewN | apply IsS69.drew | apply IsS69.set_0 | apply IsS69.set_1 | refine IsS69.far ?_ NB215_214.out _ | refine IsS69.far ?_ NB215_222.out _) | exact HI215.out)⟩, ⟨by repeat (first | (with_reducible first | exact HB.out | apply below_alloc | apply pw_below_drewN | apply below_drew1 | refine below_set ?_ (IsS69.ge HI215.out) | refine below_set ?_ GE214.out | refine below_set ?_ GE222.out) | exact HB.out)⟩⟩
    case round =>
     clear H'
     try clear c1
     try clear c2
     try clear p2
     try clear c4
     try clear c10
     try clear c10b0
     try clear c10b1
     try clear c11
     try clear c11b0
     try clear c11b1
     try clear c12
     try clear c12b0
     try clear c12b1
     try clear c13
     try clear c14
     try clear c17
     try clear c18
     try clear hcz15_0
     try clear hcz15_1
     try clear hcz15_2
     try clear hcz19_0
     try clear hcz19_1
     try clear hcz19_2
     try clear hcz7_0
     try clear hcz7_1
     try clear hfz15_0
     try clear hfz15_1
     try clear hfz15_2
     try clear hfz19_0
     try clear hfz19_1
     try clear hfz19_2
     try clear hfz7_0
     try clear hfz7_1
     try clear p2
     obtain ⟨x8_2, x215000_2, x216000_2, x216001_2, x223000_2, x223001_2, x223002_2, u223001, u223002, rfl, HA, HK2, HO_223001, HO_223002, BK214, BK222, HI215, HB⟩ := hrel
     cases gk with
     | zero => exact absurd HA.out (by simp [coppiceref06_Decode.l0])
     | succ k2 =>
      have H := HA.out
      clear HA
      simp only [coppiceref06_Decode.l0] at H
      have HC20 := Aside0.mk H
      clear H
      go_upto_region 8 with (fail)
      go_cut [42] (fun v42 wc => ∃ (kq : Nat) (x42_19 : Bool), v42 = .bool x42_19 ∧ Aside0 (coppiceref06_Decode.j2 kq t219 x8_2 x42_19 x216000_2 x216001_2 x223000_2 x223001_2 x223002_2 = some (r1, r2, r3, r4)) ∧ Aside0 (kq ≤ k2) ∧ Aside0 (Kd.R k44 44 wc w.heap.size (fun _ => True) u223001 x223001_2) ∧ Aside0 (Kd.R k46 46 wc w.heap.size (fun _ => True) u223002 x223002_2) ∧ Aside0 (wc.heap[gb214]? = some (.cells #[.bool x215000_2, (.slice none 0 0), (.slice none 0 0)] 25 (0, 0))) ∧ Aside0 (wc.heap[gb222]? = some (.cells #[.bool x223000_2, u223001, u223002] 25 (0, 0))) ∧ Aside0 (IsS69 w wc gb215 x216000_2 x216001_2) ∧ Aside0 (Below w.heap.size w wc))
      case first =>
       have H := HC20.out
       clear HC20
       by_cases c21 : x8_2 < (wrap64 (t219))
       ·rw [if_pos c21] at H
        have c21b0 : decide (x8_2 < (wrap64 (t219))) = true := decide_eq_true c21
        clear c21
        (first | rw [c21b0] | (simp only [i64_w, i32_w]; rw [c21b0]) | skip)
        have H' := Aside0.mk H
        clear H
        obtain ⟨HGz22, hgz22⟩ := HI215.out
        have hcz22_0 := cellS69_0 HGz22
        have hcz22_1 := cellS69_1 HGz22
        have hfz22_0 := blk_frozen HGz22 0
        have hfz22_1 := blk_frozen HGz22 1
        clear HGz22 hgz22
        go_wp2
        go_meet
        case rel => exact ⟨_, ((x216001_2 == 0)), (by first | rfl | (simp; done) | (simp [*]; done)), H', ⟨by have := HJ3.out; have := HK2.out; first | omega | exact Nat.le_refl _⟩, ⟨by (with_reducible repeat (first | apply Kd.R_alloc | apply Kd.R_drewN | apply Kd.R_drew)); exact HO_223001.out⟩, ⟨by (with_reducible repeat (first | apply Kd.R_alloc | apply Kd.R_drewN | apply Kd.R_drew)); exact HO_223002.out⟩, ⟨by (with_reducible repeat (first | refine blk_drewN ?_ _ | refine blk_drew ?_ | refine blk_alloc ?_ _)); exact BK214.out⟩, ⟨by (with_reducible repeat (first | refine blk_drewN ?_ _ | refine blk_drew ?_ | refine blk_alloc ?_ _)); exact BK222.out⟩, ⟨by repeat (first | (with_reducible first | exact HI215.out | apply IsS69.alloc | apply IsS69.drewN | apply IsS69.drew | apply IsS69.set_0 | apply IsS69.set_1 | refine IsS69.far ?_ NB215_214.out _ | refine IsS69.far ?_ NB215_222.out _) | exact HI215.out)⟩, ⟨by repeat (first | (with_reducible first | exact HB.out | apply below_alloc | apply pw_below_drewN | apply below_drew1 | refine below_set ?_ (IsS69.ge HI215.out) | refine below_set ?_ GE214.out | refine below_set ?_ GE222.out) | exact HB.out)⟩⟩
       ·rw [if_neg c21] at H
        have c21b0 : decide (x8_2 < (wrap64 (t219))) = false := decide_eq_false c21
        clear c21
        (first | rw [c21b0] | (simp only [i64_w, i32_w]; rw [c21b0]) | skip)
        have H' := Aside0.mk H
        clear H
        go_wp2
        go_meet
        case rel => exact ⟨_, (false), (by first | rfl | (simp; done) | (simp [*]; done)), H', ⟨by have := HJ3.out; have := HK2.out; first | omega | exact Nat.le_refl _⟩, ⟨by (with_reducible repeat (first | apply Kd.R_alloc | apply Kd.R_drewN | apply Kd.R_drew)); exact HO_223001.out⟩, ⟨by (with_reducible repeat (first | apply Kd.R_alloc | apply Kd.R_drewN | apply Kd.R_drew)); exact HO_223002.out⟩, ⟨by (with_reducible repeat (first | refine blk_drewN ?_ _ | refine blk_drew ?_ | refine blk_alloc ?_ _)); exact BK214.out⟩, ⟨by (with_reducible repeat (first | refine blk_drewN ?_ _ | refine blk_drew ?_ | refine blk_alloc ?_ _)); exact BK222.out⟩, ⟨by repeat (first | (with_reducible first | exact HI215.out | apply IsS69.alloc | apply IsS69.drewN | apply IsS69.drew | apply IsS69.set_0 | apply IsS69.set_1 | refine IsS69.far ?_ NB215_214.out _ | refine IsS69.far ?_ NB215_222.out _) | exact HI215.out)⟩, ⟨by repeat (first | (with_reducible first | exact HB.out | apply below_alloc | apply pw_below_drewN | apply below_drew1 | refine below_set ?_ (IsS69.ge HI215.out) | refine below_set ?_ GE214.out | refine below_set ?_ GE222.out) | exact HB.out)⟩⟩
      case rest =>
       clear HC20
       try clear c1
       try clear c2
       try clear p2
       try clear c4
       try clear p6
       try clear c10
       try clear c10b0
       try clear c10b1
       try clear c11
       try clear c11b0
       try clear c11b1
       try clear c12
       try clear c12b0
       try clear c12b1
       try clear c13
       try clear c14
       try clear c17
       try clear c18
       try clear c21
       try clear c21b0
       try clear hcz15_0
       try clear hcz15_1
       try clear hcz15_2
       try clear hcz19_0
       try clear hcz19_1
       try clear hcz19_2
       try clear hcz22_0
       try clear hcz22_1
       try clear hcz7_0
       try clear hcz7_1
       try clear hfz15_0
       try clear hfz15_1
       try clear hfz15_2
       try clear hfz19_0
       try clear hfz19_1
       try clear hfz19_2
       try clear hfz22_0
       try clear hfz22_1
       try clear hfz7_0
       try clear hfz7_1
       try clear p2
       obtain ⟨kq, x42_19, rfl, HA, HJ19, HO_223001, HO_223002, BK214, BK222, HI215, HB⟩ := hcut
       cases kq with
       | zero => exact absurd HA.out (by simp [coppiceref06_Decode.j2])
       | succ kj19 =>
        have H := HA.out
        clear HA
        simp only [coppiceref06_Decode.j2] at H
        by_cases c23 : x42_19 = true
        ·subst c23
         have H1 : ((coppiceref02_Reader_Text.f kj19 x216000_2 x216001_2 272).bind fun bt223 => (if x223000_2 = true then ((coppiceref02_Reader_Text.f kj19 bt223.2.1 bt223.2.2 160).bind fun bt226 => (if x223001_2.length < 4398046511104 then (coppiceref06_Decode.l0 kj19 t219 (wrap64 (x8_2 + 1)) bt226.2.1 bt226.2.2 x223000_2 (x223001_2 ++ [(⟨bt223.1, bt226.1⟩ : S44)]) x223002_2) else (none))) else ((coppiceref02_Reader_Short.f kj19 bt223.2.1 bt223.2.2).bind fun bt232 => (if bt232.1 > 4095 then (some (false, ([] : List (S44)), ([] : List (S46)), 60)) else (if x223002_2.length < 5864062014805 then (coppiceref06_Decode.l0 kj19 t219 (wrap64 (x8_2 + 1)) bt232.2.1 bt232.2.2 x223000_2 x223001_2 (x223002_2 ++ [(⟨bt223.1, wrap64 (bt232.1)⟩ : S46)])) else (none)))))) = some (r1, r2, r3, r4) := by rw [if_pos rfl] at H; exact H
         clear H
         have H := H1
         clear H1
         replace H := Option.bind_eq_some_iff.mp H
         obtain ⟨⟨t223, t224, t225⟩, A240, H⟩ := H
         replace H : (if x223000_2 = true then ((coppiceref02_Reader_Text.f kj19 t224 t225 160).bind fun bt226 => (if x223001_2.length < 4398046511104 then (coppiceref06_Decode.l0 kj19 t219 (wrap64 (x8_2 + 1)) bt226.2.1 bt226.2.2 x223000_2 (x223001_2 ++ [(⟨t223, bt226.1⟩ : S44)]) x223002_2) else (none))) else ((coppiceref02_Reader_Short.f kj19 t224 t225).bind fun bt232 => (if bt232.1 > 4095 then (some (false, ([] : List (S44)), ([] : List (S46)), 60)) else (if x223002_2.length < 5864062014805 then (coppiceref06_Decode.l0 kj19 t219 (wrap64 (x8_2 + 1)) bt232.2.1 bt232.2.2 x223000_2 x223001_2 (x223002_2 ++ [(⟨t223, wrap64 (bt232.1)⟩ : S46)])) else (none))))) = some (r1, r2, r3, r4) := H
         have A24 := Aside0.mk A240
         clear A240
         by_cases c25 : x223000_2 = true
         ·subst c25
          have H1 : ((coppiceref02_Reader_Text.f kj19 t224 t225 160).bind fun bt226 => (if x223001_2.length < 4398046511104 then (coppiceref06_Decode.l0 kj19 t219 (wrap64 (x8_2 + 1)) bt226.2.1 bt226.2.2 true (x223001_2 ++ [(⟨t223, bt226.1⟩ : S44)]) x223002_2) else (none))) = some (r1, r2, r3, r4) := by rw [if_pos rfl] at H; exact H
          clear H
          have H := H1
          clear H1
          replace H := Option.bind_eq_some_iff.mp H
          obtain ⟨⟨t226, t227, t228⟩, A260, H⟩ := H
          replace H : (if x223001_2.length < 4398046511104 then (coppiceref06_Decode.l0 kj19 t219 (wrap64 (x8_2 + 1)) t227 t228 true (x223001_2 ++ [(⟨t223, t226⟩ : S44)]) x223002_2) else (none)) = some (r1, r2, r3, r4) := H
          have A26 := Aside0.mk A260
          clear A260
          by_cases c27 : x223001_2.length < 4398046511104
          ·rw [if_pos c27] at H
           have LMc27 := Aside0.mk c27
           clear c27
           obtain ⟨y229, hy229⟩ : ∃ y_ : List (S44), y_ = (x223001_2 ++ [(⟨t223, t226⟩ : S44)]) := ⟨_, rfl⟩
           replace H : (coppiceref06_Decode.l0 kj19 t219 (wrap64 (x8_2 + 1)) t227 t228 true y229 x223002_2) = some (r1, r2, r3, r4) := by first | (rw [hy229]; with_reducible exact H) | (have H2_ := (Option.bind_some _ _).symm.trans H; rw [hy229]; with_reducible exact H2_) | (have H2_ := (Option.bind_some _ _).symm.trans H; with_reducible exact H2_) | with_reducible exact H | (rw [hy229]; exact H) | exact H
           have Ny229 := Aside0.mk hy229
           clear hy229
           have H' := Aside0.mk H
           clear H
           try go_wp2_with (first | ((with_reducible refine gate_callee (f := 46) rfl ?_); refine goesL_ (some 45) rfl rfl Try.func46 (by kernel_rfl) rfl #[.pointer (some ⟨gb215, 0, none⟩), .int .i64 272] rfl (by (try simp only [List.map_toArray, List.map_cons, List.map_nil]); first | done | rfl | (simp only [List.length_drop, List.length_take]; rfl)) ?_; (with_reducible refine (coppiceref02_Reader_Text.calls kj19 gb215 x216000_2 x216001_2 272 t223 t224 t225 w _ ?side1 ?side2 A24.out).mono ?_); (case side1 => repeat (first | (with_reducible first | exact HI215.out | apply IsS69.alloc | apply IsS69.drewN | apply IsS69.drew | apply IsS69.set_0 | apply IsS69.set_1 | refine IsS69.far ?_ NB215_214.out _ | refine IsS69.far ?_ NB215_222.out _) | exact HI215.out)); (case side2 => repeat (first | (with_reducible first | exact HB.out | apply below_alloc | apply pw_below_drewN | apply below_drew1 | refine below_set ?_ (IsS69.ge HI215.out) | refine below_set ?_ GE214.out | refine below_set ?_ GE222.out) | exact HB.out)); rintro e w28 ⟨rfl, hi, hb, hk⟩; refine ⟨_, rfl, ?_⟩; have n0_ := Aside0.mk (Kd.R_mono (Kd.R_keep (IsS69.apart (show IsS69 w _ gb215 x216000_2 x216001_2 from by repeat (first | (with_reducible first | exact HI215.out | apply IsS69.alloc | apply IsS69.drewN | apply IsS69.drew | apply IsS69.set_0 | apply IsS69.set_1 | refine IsS69.far ?_ NB215_214.out _ | refine IsS69.far ?_ NB215_222.out _) | exact HI215.out)) (by (with_reducible repeat (first | apply Kd.R_alloc | apply Kd.R_drewN | apply Kd.R_drew)); exact HO_223001.out) (by decide)) hk (fun _ h => h.2)) (fun _ h => h.1)); have n1_ := Aside0.mk (Kd.R_mono (Kd.R_keep (IsS69.apart (show IsS69 w _ gb215 x216000_2 x216001_2 from by repeat (first | (with_reducible first | exact HI215.out | apply IsS69.alloc | apply IsS69.drewN | apply IsS69.drew | apply IsS69.set_0 | apply IsS69.set_1 | refine IsS69.far ?_ NB215_214.out _ | refine IsS69.far ?_ NB215_222.out _) | exact HI215.out)) (by (with_reducible repeat (first | apply Kd.R_alloc | apply Kd.R_drewN | apply Kd.R_drew)); exact HO_223002.out) (by decide)) hk (fun _ h => h.2)) (fun _ h => h.1)); have n2_ := Aside0.mk (KeepBut.blk hk (g' := gb214) (o := .cells #[.bool x215000_2, .slice none 0 0, .slice none 0 0] 25 (0, 0)) (by (with_reducible repeat (first | refine blk_drewN ?_ _ | refine blk_drew ?_ | refine blk_alloc ?_ _)); exact BK214.out) NB214_215.out (by simp)); have n3_ := Aside0.mk (KeepBut.blk hk (g' := gb222) (o := .cells #[.bool true, u223001, u223002] 25 (0, 0)) (by (with_reducible repeat (first | refine blk_drewN ?_ _ | refine blk_drew ?_ | refine blk_alloc ?_ _)); exact BK222.out) NB222_215.out (by simp)); have n4_ := Aside0.mk (hb); have n5_ := Aside0.mk (hi); clear HO_223001; clear HO_223002; clear BK214; clear BK222; clear HB; clear HI215; have HO_223001 := n0_; have HO_223002 := n1_; have BK214 := n2_; have BK222 := n3_; have HB := n4_; have HI215 := n5_; clear n0_ n1_ n2_ n3_ n4_ n5_; (try clear hb); (try clear hb2); (try clear hk); (try clear hi); have hnb29 := NB222_214.out; have hnc29 := NB214_222.out; have hnb30 := NB222_215.out; have hnc30 := NB215_222.out; have hcz31_0 : w28.cell? ⟨gb222, 0, none⟩ = some (.bool true) := (blk_cell BK222.out 0).trans rfl; have hcz31_1 : w28.cell? ⟨gb222, 1, none⟩ = some (u223001) := (blk_cell BK222.out 1).trans rfl; have hcz31_2 : w28.cell? ⟨gb222, 2, none⟩ = some (u223002) := (blk_cell BK222.out 2).trans rfl; have hfz31_0 := blk_frozen BK222.out 0; have hfz31_1 := blk_frozen BK222.out 1; have hfz31_2 := blk_frozen BK222.out 2))
           have n0_ := Aside0.mk (Kd.R_drew HO_223001.out)
           have n1_ := Aside0.mk (Kd.R_drew HO_223002.out)
           have n2_ := Aside0.mk (blk_drew BK214.out)
           have n3_ := Aside0.mk (blk_drew BK222.out)
           have n4_ := Aside0.mk (IsS69.drew HI215.out)
           have n5_ := Aside0.mk (below_drew1 HB.out)
           clear HO_223001
           clear HO_223002
           clear BK214
           clear BK222
           clear HI215
           clear HB
           have HO_223001 := n0_
           have HO_223002 := n1_
           have BK214 := n2_
           have BK222 := n3_
           have HI215 := n4_
           have HB := n5_
           clear n0_ n1_ n2_ n3_ n4_ n5_
           refine start_ (n := 9) (S := fun w' => w'.cell? ⟨gb222, 0, none⟩ = some (.bool true) ∧ w'.cell? ⟨gb222, 1, none⟩ = some (u223001) ∧ w'.cell? ⟨gb222, 2, none⟩ = some (u223002)) (ds := [8]) #[false, false, false, false, false, false, false, false, false] (by kernel_rfl) rfl rfl ⟨(blk_cell BK222.out 0).trans rfl, (blk_cell BK222.out 1).trans rfl, (blk_cell BK222.out 2).trans rfl⟩ (fun hHeld => ?_); refine with_tabW coppiceref06_Decode.tab12 coppiceref06_Decode.bits12 (fun HT_ HW_ => ?_)
           generalize w28.drew = w32 at HO_223001 HO_223002 BK214 BK222 HI215 HB hHeld ⊢
           refine pure_ (i := 0) (N := some 48) (v := ?_) (a' := ?_) #[true, false, false, false, false, false, false, false, false] rfl rfl (any_of HT_.out (by kernel_rfl)) (fun _ _ _ h => h) (Or.inl ⟨by rfl, ?_⟩) ?_ ?_
           rotate_left
           ·intro w'
            go_simp
            with_reducible rfl
           rotate_left
           ·simp only [Act.put, List.setIfInBounds_toArray, List.set_cons_zero, List.set_cons_succ, i64_w, i32_w]
            rfl
           refine pure_ (i := 2) (N := some 50) (v := ?_) (a' := ?_) #[true, false, true, false, false, false, false, false, false] rfl rfl (any_of HT_.out (by kernel_rfl)) (fun _ _ _ h => h) (Or.inl ⟨by rfl, ?_⟩) ?_ ?_
           rotate_left
           ·intro w'
            go_simp
            with_reducible rfl
           rotate_left
           ·simp only [Act.put, List.setIfInBounds_toArray, List.set_cons_zero, List.set_cons_succ, i64_w, i32_w]
            rfl
           refine take_ (i := 1) (N := some 49) (v := ?_) (a' := ?_) #[true, true, true, false, false, false, false, false, false] rfl rfl (take_ofW HT_.out HW_.out (by kernel_rfl)) (fun _ _ _ h => h) (Or.inl ⟨by rfl, ?_⟩) hHeld ?_ ?_
           rotate_left
           ·rintro w' ⟨s0, s1, s2⟩
            go_simp
            with_reducible rfl
           rotate_left
           ·simp only [Act.put, List.setIfInBounds_toArray, List.set_cons_zero, List.set_cons_succ, i64_w, i32_w]
            rfl
           refine one_ (i := 3) (N := some 51) #[true, true, true, true, false, false, false, false, false] rfl rfl (one_of HT_.out (by kernel_rfl)) (by decide) (fun K hK => ?_)
           refine goes_ Try.func46 (by kernel_rfl) rfl #[.pointer (some ⟨gb215, 0, none⟩), .int .i64 160] (by rfl) rfl rfl (by (try simp only [List.map_toArray, List.map_cons, List.map_nil]); first | done | rfl | (simp only [List.length_drop, List.length_take]; rfl)) ?_
           with_reducible refine (coppiceref02_Reader_Text.calls kj19 gb215 t224 t225 160 t226 t227 t228 w _ ?side1 ?side2 A26.out).mono ?_
           (case side1 => repeat (first | (with_reducible first | exact HI215.out | apply IsS69.alloc | apply IsS69.drewN | apply IsS69.drew | apply IsS69.set_0 | apply IsS69.set_1 | refine IsS69.far ?_ NB215_214.out _ | refine IsS69.far ?_ NB215_222.out _) | exact HI215.out))
           (case side2 => repeat (first | (with_reducible first | exact HB.out | apply below_alloc | apply pw_below_drewN | apply below_drew1 | refine below_set ?_ (IsS69.ge HI215.out) | refine below_set ?_ GE214.out | refine below_set ?_ GE222.out) | exact HB.out))
           rintro e w33 ⟨rfl, hi, hb, hk⟩
           refine ⟨_, rfl, ?_⟩
           have n0_ := Aside0.mk (Kd.R_mono (Kd.R_keep (IsS69.apart (show IsS69 w _ gb215 t224 t225 from by repeat (first | (with_reducible first | exact HI215.out | apply IsS69.alloc | apply IsS69.drewN | apply IsS69.drew | apply IsS69.set_0 | apply IsS69.set_1 | refine IsS69.far ?_ NB215_214.out _ | refine IsS69.far ?_ NB215_222.out _) | exact HI215.out)) (by (with_reducible repeat (first | apply Kd.R_alloc | apply Kd.R_drewN | apply Kd.R_drew)); exact HO_223001.out) (by decide)) hk (fun _ h => h.2)) (fun _ h => h.1))
           have n1_ := Aside0.mk (Kd.R_mono (Kd.R_keep (IsS69.apart (show IsS69 w _ gb215 t224 t225 from by repeat (first | (with_reducible first | exact HI215.out | apply IsS69.alloc | apply IsS69.drewN | apply IsS69.drew | apply IsS69.set_0 | apply IsS69.set_1 | refine IsS69.far ?_ NB215_214.out _ | refine IsS69.far ?_ NB215_222.out _) | exact HI215.out)) (by (with_reducible repeat (first | apply Kd.R_alloc | apply Kd.R_drewN | apply Kd.R_drew)); exact HO_223002.out) (by decide)) hk (fun _ h => h.2)) (fun _ h => h.1))
           have n2_ := Aside0.mk (KeepBut.blk hk (g' := gb214) (o := .cells #[.bool x215000_2, .slice none 0 0, .slice none 0 0] 25 (0, 0)) (by (with_reducible repeat (first | refine blk_drewN ?_ _ | refine blk_drew ?_ | refine blk_alloc ?_ _)); exact BK214.out) NB214_215.out (by simp))
           have n3_ := Aside0.mk (KeepBut.blk hk (g' := gb222) (o := .cells #[.bool true, u223001, u223002] 25 (0, 0)) (by (with_reducible repeat (first | refine blk_drewN ?_ _ | refine blk_drew ?_ | refine blk_alloc ?_ _)); exact BK222.out) NB222_215.out (by simp))
           have n4_ := Aside0.mk (hb)
           have n5_ := Aside0.mk (hi)
           clear HO_223001
           clear HO_223002
           clear BK214
           clear BK222
           clear HB
           clear HI215
           have HO_223001 := n0_
           have HO_223002 := n1_
           have BK214 := n2_
           have BK222 := n3_
           have HB := n4_
           have HI215 := n5_
           clear n0_ n1_ n2_ n3_ n4_ n5_
           (try clear hb)
           (try clear hb2)
           (try clear hk)
           (try clear hi)
           refine hK.out _ _ ⟨(blk_cell BK222.out 0).trans rfl, (blk_cell BK222.out 1).trans rfl, (blk_cell BK222.out 2).trans rfl⟩ (fun hHeld => ?_)
           clear hK K
           refine norm_ (a' := ?_) ?_ ?_
           rotate_left
           ·show Act.put _ (some 51) _ = _
            simp only [Act.put, List.setIfInBounds_toArray, List.set_cons_zero, List.set_cons_succ, i64_w, i32_w]
            rfl
           refine pure_ (i := 4) (N := some 52) (v := ?_) (a' := ?_) #[true, true, true, true, true, false, false, false, false] rfl rfl (any_of HT_.out (by kernel_rfl)) (fun _ _ _ h => h) (Or.inl ⟨by rfl, ?_⟩) ?_ ?_
           rotate_left
           ·intro w'
            go_simp
            with_reducible rfl
           rotate_left
           ·simp only [Act.put, List.setIfInBounds_toArray, List.set_cons_zero, List.set_cons_succ, i64_w, i32_w]
            rfl
           refine one_ (i := 5) (N := some 53) #[true, true, true, true, true, true, false, false, false] rfl rfl (one_of HT_.out (by kernel_rfl)) (by decide) (fun K hK => ?_)
           refine value_ (w1 := ?_) (v := ?_) (by rfl) rfl ?_ ?_
           rotate_left 2
           ·go_simp
            constructor
            ·rfl
            ·rfl
           refine hK.out _ _ ⟨(blk_cell (blk_alloc BK222.out _) 0).trans rfl, (blk_cell (blk_alloc BK222.out _) 1).trans rfl, (blk_cell (blk_alloc BK222.out _) 2).trans rfl⟩ (fun hHeld => ?_)
           clear hK K
           refine norm_ (a' := ?_) ?_ ?_
           rotate_left
           ·show Act.put _ (some 53) _ = _
            simp only [Act.put, List.setIfInBounds_toArray, List.set_cons_zero, List.set_cons_succ, i64_w, i32_w]
            rfl
           refine one_ (i := 6) (N := some 54) #[true, true, true, true, true, true, true, false, false] rfl rfl (one_of HT_.out (by kernel_rfl)) (by decide) (fun K hK => ?_)
           refine Kd.R_append_step k44 (w0 := w) w.heap.size (by rfl) (.tmp 49) (.tmp 53) 22 44 (.agg #[(.string ⟨#[]⟩), (.string ⟨#[]⟩)]) 32 rfl Try.underlying22 info44 rfl (by decide) (by omega) u223001 x223001_2 (⟨t223, t226⟩ : S44) [.string t223, .string t226] (fun _ => True) (fun _ => False) rfl rfl ?aP (fun _ hk => hk.elim) ?aF ?aO ?aB ?aS ?aL ?_
           (case aP => exact k44_mkM _ _ _ (⟨t223, t226⟩ : S44))
           (case aB => exact (by repeat (first | (with_reducible first | exact HB.out | apply below_alloc | apply pw_below_drewN | apply below_drew1 | refine below_set ?_ (IsS69.ge HI215.out) | refine below_set ?_ GE214.out | refine below_set ?_ GE222.out) | exact HB.out)))
           (case aF => exact (fun _ _ => trivial))
           (case aO => exact (by (with_reducible repeat (first | apply Kd.R_alloc | apply Kd.R_drewN | apply Kd.R_drew)); exact HO_223001.out))
           (case aS => exact (below_size (by repeat (first | (with_reducible first | exact HB.out | apply below_alloc | apply pw_below_drewN | apply below_drew1 | refine below_set ?_ (IsS69.ge HI215.out) | refine below_set ?_ GE214.out | refine below_set ?_ GE222.out) | exact HB.out))))
           (case aL => have := LMc27.out; omega)
           intro v230 w34 ho hb hg hat
           rw [← Ny229.out] at ho
           have n0_ := Aside0.mk (Kd.R_over' (by (with_reducible repeat (first | apply Kd.R_alloc | apply Kd.R_drewN | apply Kd.R_drew)); exact HO_223002.out) (Kd.R_typed (by (with_reducible repeat (first | apply Kd.R_alloc | apply Kd.R_drewN | apply Kd.R_drew)); exact HO_223001.out)) (by decide) hg)
           have n1_ := Aside0.mk (blk_grown (g := gb214) (o := .cells #[.bool x215000_2, .slice none 0 0, .slice none 0 0] 25 (0, 0)) (by (with_reducible repeat (first | refine blk_drewN ?_ _ | refine blk_drew ?_ | refine blk_alloc ?_ _)); exact BK214.out) hg (Kd.R_ne HO_223001.out BK214.out (by decide)))
           have n2_ := Aside0.mk (blk_grown (g := gb222) (o := .cells #[.bool true, u223001, u223002] 25 (0, 0)) (by (with_reducible repeat (first | refine blk_drewN ?_ _ | refine blk_drew ?_ | refine blk_alloc ?_ _)); exact BK222.out) hg (Kd.R_ne HO_223001.out BK222.out (by decide)))
           have n3_ := Aside0.mk (IsS69.grown (by repeat (first | (with_reducible first | exact HI215.out | apply IsS69.alloc | apply IsS69.drewN | apply IsS69.drew | apply IsS69.set_0 | apply IsS69.set_1 | refine IsS69.far ?_ NB215_214.out _ | refine IsS69.far ?_ NB215_222.out _) | exact HI215.out)) hg (IsS69.own_ne HI215.out HO_223001.out (by decide)))
           have n4_ := Aside0.mk (hb)
           have n5_ := Aside0.mk (ho)
           clear HO_223002
           clear BK214
           clear BK222
           clear HI215
           clear HB
           clear HO_223001
           have HO_223002 := n0_
           have BK214 := n1_
           have BK222 := n2_
           have HI215 := n3_
           have HB := n4_
           have HO231 := n5_
           clear n0_ n1_ n2_ n3_ n4_ n5_
           clear ho hb hg hat
           obtain ⟨Ao35, co35, eo35⟩ := Kd.R_slice HO231.out
           (first | subst eo35 | (injection eo35 with f1_ f2_ f3_; have f4_ := f1_.symm; have f5_ := f3_.symm; clear f1_ f2_ f3_; subst f4_; subst f5_))
           refine hK.out _ _ ⟨(blk_cell BK222.out 0).trans rfl, (blk_cell BK222.out 1).trans rfl, (blk_cell BK222.out 2).trans rfl⟩ (fun hHeld => ?_)
           clear hK K
           refine norm_ (a' := ?_) ?_ ?_
           rotate_left
           ·show Act.put _ (some 54) _ = _
            simp only [Act.put, List.setIfInBounds_toArray, List.set_cons_zero, List.set_cons_succ, i64_w, i32_w]
            rfl
           refine pure_ (i := 7) (N := some 55) (v := ?_) (a' := ?_) #[true, true, true, true, true, true, true, true, false] rfl rfl (any_of HT_.out (by kernel_rfl)) (fun _ _ _ h => h) (Or.inl ⟨by rfl, ?_⟩) ?_ ?_
           rotate_left
           ·intro w'
            go_simp
            with_reducible rfl
           rotate_left
           ·simp only [Act.put, List.setIfInBounds_toArray, List.set_cons_zero, List.set_cons_succ, i64_w, i32_w]
            rfl
           refine last_ (i := 8) (N := none) #[true, true, true, true, true, true, true, true, true] rfl rfl (one_of HT_.out (by kernel_rfl)) (by decide) (fun K hK => ?_)
           have hs36 : w34.cell? ⟨gb222, 1, none⟩ = some (u223001) := (blk_cell BK222.out 1).trans rfl
           have hfs36 := blk_frozen BK222.out 1
           have hns36_0 := NB214_222.out
           have hms36_0 := NB222_214.out
           refine skip_ (w1 := ?_) (by rfl) rfl ?_ ?_
           rotate_left
           ·go_simp
            rfl
           refine hK.out _ _ ?_
           clear hK K
           refine done_ (done_of HT_.out (by kernel_rfl)) ?_
           try go_wp2
           go_roundg kj19
           case measure => have := HJ3.out; have := HK2.out; have := HJ19.out; omega
           case rel => exact ⟨(wrap64 (x8_2 + 1)), (x215000_2), (t227), (t228), (true), (y229), (x223002_2), (.slice Ao35 y229.length co35), (u223002), (by first | rfl | (simp; done) | (simp [*]; done)), H', ⟨by have := HJ3.out; have := HK2.out; have := HJ19.out; omega⟩, ⟨by (with_reducible repeat (first | apply Kd.R_alloc | apply Kd.R_drewN | apply Kd.R_drew)); exact Kd.R_mono (Kd.R_far (p := ⟨gb222, 1, none⟩) (Kd.R_types HO231.out BK222.out (by decide)) (fun _ hk => hk.2) (.slice Ao35 y229.length co35)) (fun _ hk => trivial)⟩, ⟨by (with_reducible repeat (first | apply Kd.R_alloc | apply Kd.R_drewN | apply Kd.R_drew)); exact Kd.R_mono (Kd.R_far (p := ⟨gb222, 1, none⟩) (Kd.R_types HO_223002.out BK222.out (by decide)) (fun _ hk => hk.2) (.slice Ao35 y229.length co35)) (fun _ hk => trivial)⟩, ⟨by (with_reducible repeat (first | refine blk_drewN ?_ _ | refine blk_drew ?_ | refine blk_alloc ?_ _)); refine blk_far ?_ NB214_222.out _; (with_reducible repeat (first | refine blk_drewN ?_ _ | refine blk_drew ?_ | refine blk_alloc ?_ _)); exact BK214.out⟩, ⟨by (with_reducible repeat (first | refine blk_drewN ?_ _ | refine blk_drew ?_ | refine blk_alloc ?_ _)); refine blk_put (cs := #[.bool true, u223001, u223002]) ?_ 1 _ rfl; (with_reducible repeat (first | refine blk_drewN ?_ _ | refine blk_drew ?_ | refine blk_alloc ?_ _)); exact BK222.out⟩, ⟨by repeat (first | (with_reducible first | exact HI215.out | apply IsS69.alloc | apply IsS69.drewN | apply IsS69.drew | apply IsS69.set_0 | apply IsS69.set_1 | refine IsS69.far ?_ NB215_214.out _ | refine IsS69.far ?_ NB215_222.out _) | exact HI215.out)⟩, ⟨by repeat (first | (with_reducible first | exact HB.out | apply below_alloc | apply pw_below_drewN | apply below_drew1 | refine below_set ?_ (IsS69.ge HI215.out) | refine below_set ?_ GE214.out | refine below_set ?_ GE222.out) | exact HB.out)⟩⟩
          ·rw [if_neg c27] at H
           exact absurd H (by simp)
         ·replace c25 := Bool.eq_false_iff.mpr c25
          subst c25
          have H1 : ((coppiceref02_Reader_Short.f kj19 t224 t225).bind fun bt232 => (if bt232.1 > 4095 then (some (false, ([] : List (S44)), ([] : List (S46)), 60)) else (if x223002_2.length < 5864062014805 then (coppiceref06_Decode.l0 kj19 t219 (wrap64 (x8_2 + 1)) bt232.2.1 bt232.2.2 false x223001_2 (x223002_2 ++ [(⟨t223, wrap64 (bt232.1)⟩ : S46)])) else (none)))) = some (r1, r2, r3, r4) := by rw [if_neg (show ¬ (false = true) by decide)] at H; exact H
          clear H
          have H := H1
          clear H1
          replace H := Option.bind_eq_some_iff.mp H
          obtain ⟨⟨t232, t233, t234⟩, A370, H⟩ := H
          replace H : (if t232 > 4095 then (some (false, ([] : List (S44)), ([] : List (S46)), 60)) else (if x223002_2.length < 5864062014805 then (coppiceref06_Decode.l0 kj19 t219 (wrap64 (x8_2 + 1)) t233 t234 false x223001_2 (x223002_2 ++ [(⟨t223, wrap64 (t232)⟩ : S46)])) else (none))) = some (r1, r2, r3, r4) := H
          have A37 := Aside0.mk A370
          clear A370
          by_cases c38 : t232 > 4095
          ·rw [if_pos c38] at H
           have c38b0 : decide (4095 < t232) = true := decide_eq_true c38
           clear c38
           simp only [Option.some.injEq, Prod.mk.injEq] at H
           obtain ⟨rfl, rfl, rfl, rfl⟩ := H
           go_wp2_with (first | ((with_reducible refine gate_callee (f := 46) rfl ?_); refine goesL_ (some 45) rfl rfl Try.func46 (by kernel_rfl) rfl #[.pointer (some ⟨gb215, 0, none⟩), .int .i64 272] rfl (by (try simp only [List.map_toArray, List.map_cons, List.map_nil]); first | done | rfl | (simp only [List.length_drop, List.length_take]; rfl)) ?_; (with_reducible refine (coppiceref02_Reader_Text.calls kj19 gb215 x216000_2 x216001_2 272 t223 t224 t225 w _ ?side1 ?side2 A24.out).mono ?_); (case side1 => repeat (first | (with_reducible first | exact HI215.out | apply IsS69.alloc | apply IsS69.drewN | apply IsS69.drew | apply IsS69.set_0 | apply IsS69.set_1 | refine IsS69.far ?_ NB215_214.out _ | refine IsS69.far ?_ NB215_222.out _) | exact HI215.out)); (case side2 => repeat (first | (with_reducible first | exact HB.out | apply below_alloc | apply pw_below_drewN | apply below_drew1 | refine below_set ?_ (IsS69.ge HI215.out) | refine below_set ?_ GE214.out | refine below_set ?_ GE222.out) | exact HB.out)); rintro e w39 ⟨rfl, hi, hb, hk⟩; refine ⟨_, rfl, ?_⟩; have n0_ := Aside0.mk (Kd.R_mono (Kd.R_keep (IsS69.apart (show IsS69 w _ gb215 x216000_2 x216001_2 from by repeat (first | (with_reducible first | exact HI215.out | apply IsS69.alloc | apply IsS69.drewN | apply IsS69.drew | apply IsS69.set_0 | apply IsS69.set_1 | refine IsS69.far ?_ NB215_214.out _ | refine IsS69.far ?_ NB215_222.out _) | exact HI215.out)) (by (with_reducible repeat (first | apply Kd.R_alloc | apply Kd.R_drewN | apply Kd.R_drew)); exact HO_223001.out) (by decide)) hk (fun _ h => h.2)) (fun _ h => h.1)); have n1_ := Aside0.mk (Kd.R_mono (Kd.R_keep (IsS69.apart (show IsS69 w _ gb215 x216000_2 x216001_2 from by repeat (first | (with_reducible first | exact HI215.out | apply IsS69.alloc | apply IsS69.drewN | apply IsS69.drew | apply IsS69.set_0 | apply IsS69.set_1 | refine IsS69.far ?_ NB215_214.out _ | refine IsS69.far ?_ NB215_222.out _) | exact HI215.out)) (by (with_reducible repeat (first | apply Kd.R_alloc | apply Kd.R_drewN | apply Kd.R_drew)); exact HO_223002.out) (by decide)) hk (fun _ h => h.2)) (fun _ h => h.1)); have n2_ := Aside0.mk (KeepBut.blk hk (g' := gb214) (o := .cells #[.bool x215000_2, .slice none 0 0, .slice none 0 0] 25 (0, 0)) (by (with_reducible repeat (first | refine blk_drewN ?_ _ | refine blk_drew ?_ | refine blk_alloc ?_ _)); exact BK214.out) NB214_215.out (by simp)); have n3_ := Aside0.mk (KeepBut.blk hk (g' := gb222) (o := .cells #[.bool false, u223001, u223002] 25 (0, 0)) (by (with_reducible repeat (first | refine blk_drewN ?_ _ | refine blk_drew ?_ | refine blk_alloc ?_ _)); exact BK222.out) NB222_215.out (by simp)); have n4_ := Aside0.mk (hb); have n5_ := Aside0.mk (hi); clear HO_223001; clear HO_223002; clear BK214; clear BK222; clear HB; clear HI215; have HO_223001 := n0_; have HO_223002 := n1_; have BK214 := n2_; have BK222 := n3_; have HB := n4_; have HI215 := n5_; clear n0_ n1_ n2_ n3_ n4_ n5_; (try clear hb); (try clear hb2); (try clear hk); (try clear hi); have hnb40 := NB222_214.out; have hnc40 := NB214_222.out; have hnb41 := NB222_215.out; have hnc41 := NB215_222.out; have hcz42_0 : w39.cell? ⟨gb222, 0, none⟩ = some (.bool false) := (blk_cell BK222.out 0).trans rfl; have hcz42_1 : w39.cell? ⟨gb222, 1, none⟩ = some (u223001) := (blk_cell BK222.out 1).trans rfl; have hcz42_2 : w39.cell? ⟨gb222, 2, none⟩ = some (u223002) := (blk_cell BK222.out 2).trans rfl; have hfz42_0 := blk_frozen BK222.out 0; have hfz42_1 := blk_frozen BK222.out 1; have hfz42_2 := blk_frozen BK222.out 2) | ((with_reducible refine gate_callee (f := 45) rfl ?_); refine goesL_ (some 56) rfl rfl Try.func45 (by kernel_rfl) rfl #[.pointer (some ⟨gb215, 0, none⟩)] rfl (by (try simp only [List.map_toArray, List.map_cons, List.map_nil]); first | done | rfl | (simp only [List.length_drop, List.length_take]; rfl)) ?_; (with_reducible refine (coppiceref02_Reader_Short.calls kj19 gb215 t224 t225 t232 t233 t234 w _ ?side1 ?side2 A37.out).mono ?_); (case side1 => repeat (first | (with_reducible first | exact HI215.out | apply IsS69.alloc | apply IsS69.drewN | apply IsS69.drew | apply IsS69.set_0 | apply IsS69.set_1 | refine IsS69.far ?_ NB215_214.out _ | refine IsS69.far ?_ NB215_222.out _) | exact HI215.out)); (case side2 => repeat (first | (with_reducible first | exact HB.out | apply below_alloc | apply pw_below_drewN | apply below_drew1 | refine below_set ?_ (IsS69.ge HI215.out) | refine below_set ?_ GE214.out | refine below_set ?_ GE222.out) | exact HB.out)); rintro e w43 ⟨rfl, hi, hb, hk⟩; refine ⟨_, rfl, ?_⟩; have n0_ := Aside0.mk (Kd.R_mono (Kd.R_keep (IsS69.apart (show IsS69 w _ gb215 t224 t225 from by repeat (first | (with_reducible first | exact HI215.out | apply IsS69.alloc | apply IsS69.drewN | apply IsS69.drew | apply IsS69.set_0 | apply IsS69.set_1 | refine IsS69.far ?_ NB215_214.out _ | refine IsS69.far ?_ NB215_222.out _) | exact HI215.out)) (by (with_reducible repeat (first | apply Kd.R_alloc | apply Kd.R_drewN | apply Kd.R_drew)); exact HO_223001.out) (by decide)) hk (fun _ h => h.2)) (fun _ h => h.1)); have n1_ := Aside0.mk (Kd.R_mono (Kd.R_keep (IsS69.apart (show IsS69 w _ gb215 t224 t225 from by repeat (first | (with_reducible first | exact HI215.out | apply IsS69.alloc | apply IsS69.drewN | apply IsS69.drew | apply IsS69.set_0 | apply IsS69.set_1 | refine IsS69.far ?_ NB215_214.out _ | refine IsS69.far ?_ NB215_222.out _) | exact HI215.out)) (by (with_reducible repeat (first | apply Kd.R_alloc | apply Kd.R_drewN | apply Kd.R_drew)); exact HO_223002.out) (by decide)) hk (fun _ h => h.2)) (fun _ h => h.1)); have n2_ := Aside0.mk (KeepBut.blk hk (g' := gb214) (o := .cells #[.bool x215000_2, .slice none 0 0, .slice none 0 0] 25 (0, 0)) (by (with_reducible repeat (first | refine blk_drewN ?_ _ | refine blk_drew ?_ | refine blk_alloc ?_ _)); exact BK214.out) NB214_215.out (by simp)); have n3_ := Aside0.mk (KeepBut.blk hk (g' := gb222) (o := .cells #[.bool false, u223001, u223002] 25 (0, 0)) (by (with_reducible repeat (first | refine blk_drewN ?_ _ | refine blk_drew ?_ | refine blk_alloc ?_ _)); exact BK222.out) NB222_215.out (by simp)); have n4_ := Aside0.mk (hb); have n5_ := Aside0.mk (hi); clear HO_223001; clear HO_223002; clear BK214; clear BK222; clear HB; clear HI215; have HO_223001 := n0_; have HO_223002 := n1_; have BK214 := n2_; have BK222 := n3_; have HB := n4_; have HI215 := n5_; clear n0_ n1_ n2_ n3_ n4_ n5_; (try clear hb); (try clear hb2); (try clear hk); (try clear hi); have hnb44 := NB214_215.out; have hnc44 := NB215_214.out; have hcz45_0 : w43.cell? ⟨gb214, 0, none⟩ = some (.bool x215000_2) := (blk_cell BK214.out 0).trans rfl; have hcz45_1 : w43.cell? ⟨gb214, 1, none⟩ = some (.slice none 0 0) := (blk_cell BK214.out 1).trans rfl; have hcz45_2 : w43.cell? ⟨gb214, 2, none⟩ = some (.slice none 0 0) := (blk_cell BK214.out 2).trans rfl; have hfz45_0 := blk_frozen BK214.out 0; have hfz45_1 := blk_frozen BK214.out 1; have hfz45_2 := blk_frozen BK214.out 2))
           refine bodyPost_ret (results_ct rfl _ _ gb214 25 #[.bool false, .slice none 0 0, .slice none 0 0] (0, 0) _ rfl (by (with_reducible repeat (first | refine blk_drewN ?_ _ | refine blk_drew ?_ | refine blk_alloc ?_ _)); refine blk_put (cs := #[.bool false, .slice none 0 0, .slice none 0 0]) ?_ 2 _ rfl; (with_reducible repeat (first | refine blk_drewN ?_ _ | refine blk_drew ?_ | refine blk_alloc ?_ _)); refine blk_put (cs := #[.bool false, .slice none 0 0, .slice none 0 0]) ?_ 1 _ rfl; (with_reducible repeat (first | refine blk_drewN ?_ _ | refine blk_drew ?_ | refine blk_alloc ?_ _)); refine blk_put (cs := #[.bool x215000_2, .slice none 0 0, .slice none 0 0]) ?_ 0 _ rfl; (with_reducible repeat (first | refine blk_drewN ?_ _ | refine blk_drew ?_ | refine blk_alloc ?_ _)); exact BK214.out) Try.underlying25 rfl (by kernel_rfl)) rfl ?_
           exact ⟨_, _, by first | rfl | (simp [errW_none, errW_some] <;> rfl) | (simp [*, errW_none, errW_some] <;> rfl), by first | exact Kd.R_nil _ _ _ _ _ | exact Kd.N_nil _ _ _ _ _ | exact Kd.V_nil _ _ _ _ _ | exact Kd.Q_nil _ _ _ _ _ | exact Kd.S_nil _ _ _ _ _, by first | exact Kd.R_nil _ _ _ _ _ | exact Kd.N_nil _ _ _ _ _ | exact Kd.V_nil _ _ _ _ _ | exact Kd.Q_nil _ _ _ _ _ | exact Kd.S_nil _ _ _ _ _, by repeat (first | (with_reducible first | exact HB.out | apply below_alloc | apply pw_below_drewN | apply below_drew1 | refine below_set ?_ (IsS69.ge HI215.out) | refine below_set ?_ GE214.out | refine below_set ?_ GE222.out) | exact HB.out)⟩
          ·rw [if_neg c38] at H
           have c38b0 : decide (4095 < t232) = false := decide_eq_false c38
           clear c38
           by_cases c46 : x223002_2.length < 5864062014805
           ·rw [if_pos c46] at H
            have LMc46 := Aside0.mk c46
            clear c46
            obtain ⟨y235, hy235⟩ : ∃ y_ : List (S46), y_ = (x223002_2 ++ [(⟨t223, wrap64 (t232)⟩ : S46)]) := ⟨_, rfl⟩
            replace H : (coppiceref06_Decode.l0 kj19 t219 (wrap64 (x8_2 + 1)) t233 t234 false x223001_2 y235) = some (r1, r2, r3, r4) := by first | (rw [hy235]; with_reducible exact H) | (have H2_ := (Option.bind_some _ _).symm.trans H; rw [hy235]; with_reducible exact H2_) | (have H2_ := (Option.bind_some _ _).symm.trans H; with_reducible exact H2_) | with_reducible exact H | (rw [hy235]; exact H) | exact H
            have Ny235 := Aside0.mk hy235
            clear hy235
            have H' := Aside0.mk H
            clear H
            go_wp2_with (first | ((with_reducible refine gate_callee (f := 46) rfl ?_); refine goesL_ (some 45) rfl rfl Try.func46 (by kernel_rfl) rfl #[.pointer (some ⟨gb215, 0, none⟩), .int .i64 272] rfl (by (try simp only [List.map_toArray, List.map_cons, List.map_nil]); first | done | rfl | (simp only [List.length_drop, List.length_take]; rfl)) ?_; (with_reducible refine (coppiceref02_Reader_Text.calls kj19 gb215 x216000_2 x216001_2 272 t223 t224 t225 w _ ?side1 ?side2 A24.out).mono ?_); (case side1 => repeat (first | (with_reducible first | exact HI215.out | apply IsS69.alloc | apply IsS69.drewN | apply IsS69.drew | apply IsS69.set_0 | apply IsS69.set_1 | refine IsS69.far ?_ NB215_214.out _ | refine IsS69.far ?_ NB215_222.out _) | exact HI215.out)); (case side2 => repeat (first | (with_reducible first | exact HB.out | apply below_alloc | apply pw_below_drewN | apply below_drew1 | refine below_set ?_ (IsS69.ge HI215.out) | refine below_set ?_ GE214.out | refine below_set ?_ GE222.out) | exact HB.out)); rintro e w47 ⟨rfl, hi, hb, hk⟩; refine ⟨_, rfl, ?_⟩; have n0_ := Aside0.mk (Kd.R_mono (Kd.R_keep (IsS69.apart (show IsS69 w _ gb215 x216000_2 x216001_2 from by repeat (first | (with_reducible first | exact HI215.out | apply IsS69.alloc | apply IsS69.drewN | apply IsS69.drew | apply IsS69.set_0 | apply IsS69.set_1 | refine IsS69.far ?_ NB215_214.out _ | refine IsS69.far ?_ NB215_222.out _) | exact HI215.out)) (by (with_reducible repeat (first | apply Kd.R_alloc | apply Kd.R_drewN | apply Kd.R_drew)); exact HO_223001.out) (by decide)) hk (fun _ h => h.2)) (fun _ h => h.1)); have n1_ := Aside0.mk (Kd.R_mono (Kd.R_keep (IsS69.apart (show IsS69 w _ gb215 x216000_2 x216001_2 from by repeat (first | (with_reducible first | exact HI215.out | apply IsS69.alloc | apply IsS69.drewN | apply IsS69.drew | apply IsS69.set_0 | apply IsS69.set_1 | refine IsS69.far ?_ NB215_214.out _ | refine IsS69.far ?_ NB215_222.out _) | exact HI215.out)) (by (with_reducible repeat (first | apply Kd.R_alloc | apply Kd.R_drewN | apply Kd.R_drew)); exact HO_223002.out) (by decide)) hk (fun _ h => h.2)) (fun _ h => h.1)); have n2_ := Aside0.mk (KeepBut.blk hk (g' := gb214) (o := .cells #[.bool x215000_2, .slice none 0 0, .slice none 0 0] 25 (0, 0)) (by (with_reducible repeat (first | refine blk_drewN ?_ _ | refine blk_drew ?_ | refine blk_alloc ?_ _)); exact BK214.out) NB214_215.out (by simp)); have n3_ := Aside0.mk (KeepBut.blk hk (g' := gb222) (o := .cells #[.bool false, u223001, u223002] 25 (0, 0)) (by (with_reducible repeat (first | refine blk_drewN ?_ _ | refine blk_drew ?_ | refine blk_alloc ?_ _)); exact BK222.out) NB222_215.out (by simp)); have n4_ := Aside0.mk (hb); have n5_ := Aside0.mk (hi); clear HO_223001; clear HO_223002; clear BK214; clear BK222; clear HB; clear HI215; have HO_223001 := n0_; have HO_223002 := n1_; have BK214 := n2_; have BK222 := n3_; have HB := n4_; have HI215 := n5_; clear n0_ n1_ n2_ n3_ n4_ n5_; (try clear hb); (try clear hb2); (try clear hk); (try clear hi); have hnb48 := NB222_214.out; have hnc48 := NB214_222.out; have hnb49 := NB222_215.out; have hnc49 := NB215_222.out; have hcz50_0 : w47.cell? ⟨gb222, 0, none⟩ = some (.bool false) := (blk_cell BK222.out 0).trans rfl; have hcz50_1 : w47.cell? ⟨gb222, 1, none⟩ = some (u223001) := (blk_cell BK222.out 1).trans rfl; have hcz50_2 : w47.cell? ⟨gb222, 2, none⟩ = some (u223002) := (blk_cell BK222.out 2).trans rfl; have hfz50_0 := blk_frozen BK222.out 0; have hfz50_1 := blk_frozen BK222.out 1; have hfz50_2 := blk_frozen BK222.out 2) | ((with_reducible refine gate_callee (f := 45) rfl ?_); refine goesL_ (some 56) rfl rfl Try.func45 (by kernel_rfl) rfl #[.pointer (some ⟨gb215, 0, none⟩)] rfl (by (try simp only [List.map_toArray, List.map_cons, List.map_nil]); first | done | rfl | (simp only [List.length_drop, List.length_take]; rfl)) ?_; (with_reducible refine (coppiceref02_Reader_Short.calls kj19 gb215 t224 t225 t232 t233 t234 w _ ?side1 ?side2 A37.out).mono ?_); (case side1 => repeat (first | (with_reducible first | exact HI215.out | apply IsS69.alloc | apply IsS69.drewN | apply IsS69.drew | apply IsS69.set_0 | apply IsS69.set_1 | refine IsS69.far ?_ NB215_214.out _ | refine IsS69.far ?_ NB215_222.out _) | exact HI215.out)); (case side2 => repeat (first | (with_reducible first | exact HB.out | apply below_alloc | apply pw_below_drewN | apply below_drew1 | refine below_set ?_ (IsS69.ge HI215.out) | refine below_set ?_ GE214.out | refine below_set ?_ GE222.out) | exact HB.out)); rintro e w51 ⟨rfl, hi, hb, hk⟩; refine ⟨_, rfl, ?_⟩; have n0_ := Aside0.mk (Kd.R_mono (Kd.R_keep (IsS69.apart (show IsS69 w _ gb215 t224 t225 from by repeat (first | (with_reducible first | exact HI215.out | apply IsS69.alloc | apply IsS69.drewN | apply IsS69.drew | apply IsS69.set_0 | apply IsS69.set_1 | refine IsS69.far ?_ NB215_214.out _ | refine IsS69.far ?_ NB215_222.out _) | exact HI215.out)) (by (with_reducible repeat (first | apply Kd.R_alloc | apply Kd.R_drewN | apply Kd.R_drew)); exact HO_223001.out) (by decide)) hk (fun _ h => h.2)) (fun _ h => h.1)); have n1_ := Aside0.mk (Kd.R_mono (Kd.R_keep (IsS69.apart (show IsS69 w _ gb215 t224 t225 from by repeat (first | (with_reducible first | exact HI215.out | apply IsS69.alloc | apply IsS69.drewN | apply IsS69.drew | apply IsS69.set_0 | apply IsS69.set_1 | refine IsS69.far ?_ NB215_214.out _ | refine IsS69.far ?_ NB215_222.out _) | exact HI215.out)) (by (with_reducible repeat (first | apply Kd.R_alloc | apply Kd.R_drewN | apply Kd.R_drew)); exact HO_223002.out) (by decide)) hk (fun _ h => h.2)) (fun _ h => h.1)); have n2_ := Aside0.mk (KeepBut.blk hk (g' := gb214) (o := .cells #[.bool x215000_2, .slice none 0 0, .slice none 0 0] 25 (0, 0)) (by (with_reducible repeat (first | refine blk_drewN ?_ _ | refine blk_drew ?_ | refine blk_alloc ?_ _)); exact BK214.out) NB214_215.out (by simp)); have n3_ := Aside0.mk (KeepBut.blk hk (g' := gb222) (o := .cells #[.bool false, u223001, u223002] 25 (0, 0)) (by (with_reducible repeat (first | refine blk_drewN ?_ _ | refine blk_drew ?_ | refine blk_alloc ?_ _)); exact BK222.out) NB222_215.out (by simp)); have n4_ := Aside0.mk (hb); have n5_ := Aside0.mk (hi); clear HO_223001; clear HO_223002; clear BK214; clear BK222; clear HB; clear HI215; have HO_223001 := n0_; have HO_223002 := n1_; have BK214 := n2_; have BK222 := n3_; have HB := n4_; have HI215 := n5_; clear n0_ n1_ n2_ n3_ n4_ n5_; (try clear hb); (try clear hb2); (try clear hk); (try clear hi); have hcz52_0 : w51.cell? ⟨gb222, 0, none⟩ = some (.bool false) := (blk_cell BK222.out 0).trans rfl; have hcz52_1 : w51.cell? ⟨gb222, 1, none⟩ = some (u223001) := (blk_cell BK222.out 1).trans rfl; have hcz52_2 : w51.cell? ⟨gb222, 2, none⟩ = some (u223002) := (blk_cell BK222.out 2).trans rfl; have hfz52_0 := blk_frozen BK222.out 0; have hfz52_1 := blk_frozen BK222.out 1; have hfz52_2 := blk_frozen BK222.out 2) | ((with_reducible refine gate_builtin (b := .append) (xs := #[.tmp 61, .tmp 66]) rfl ?_); at_builtin; refine Kd.R_append k46 (w0 := w) w.heap.size rfl (.tmp 61) (.tmp 66) 23 46 (.agg #[(.string ⟨#[]⟩), (.int .i64 0)]) 24 rfl Try.underlying23 info46 rfl (by decide) (by omega) u223002 x223002_2 (⟨t223, wrap64 (t232)⟩ : S46) [.string t223, .int .i64 (wrap64 (t232))] (fun _ => True) (fun _ => False) rfl rfl ?aP (fun _ hk => hk.elim) ?aF ?aO ?aB ?aS ?aL ?_; (case aP => exact k46_mkM _ _ _ (⟨t223, wrap64 (t232)⟩ : S46)); (case aB => exact (by repeat (first | (with_reducible first | exact HB.out | apply below_alloc | apply pw_below_drewN | apply below_drew1 | refine below_set ?_ (IsS69.ge HI215.out) | refine below_set ?_ GE214.out | refine below_set ?_ GE222.out) | exact HB.out))); (case aF => exact (fun _ _ => trivial)); (case aO => exact (by (with_reducible repeat (first | apply Kd.R_alloc | apply Kd.R_drewN | apply Kd.R_drew)); exact HO_223002.out)); (case aS => exact (below_size (by repeat (first | (with_reducible first | exact HB.out | apply below_alloc | apply pw_below_drewN | apply below_drew1 | refine below_set ?_ (IsS69.ge HI215.out) | refine below_set ?_ GE214.out | refine below_set ?_ GE222.out) | exact HB.out)))); (case aL => have := LMc46.out; omega); intro v236 w53 ho hb hg hat; rw [← Ny235.out] at ho; have n0_ := Aside0.mk (Kd.R_over' (by (with_reducible repeat (first | apply Kd.R_alloc | apply Kd.R_drewN | apply Kd.R_drew)); exact HO_223001.out) (Kd.R_typed (by (with_reducible repeat (first | apply Kd.R_alloc | apply Kd.R_drewN | apply Kd.R_drew)); exact HO_223002.out)) (by decide) hg); have n1_ := Aside0.mk (blk_grown (g := gb214) (o := .cells #[.bool x215000_2, .slice none 0 0, .slice none 0 0] 25 (0, 0)) (by (with_reducible repeat (first | refine blk_drewN ?_ _ | refine blk_drew ?_ | refine blk_alloc ?_ _)); exact BK214.out) hg (Kd.R_ne HO_223002.out BK214.out (by decide))); have n2_ := Aside0.mk (blk_grown (g := gb222) (o := .cells #[.bool false, u223001, u223002] 25 (0, 0)) (by (with_reducible repeat (first | refine blk_drewN ?_ _ | refine blk_drew ?_ | refine blk_alloc ?_ _)); exact BK222.out) hg (Kd.R_ne HO_223002.out BK222.out (by decide))); have n3_ := Aside0.mk (IsS69.grown (by repeat (first | (with_reducible first | exact HI215.out | apply IsS69.alloc | apply IsS69.drewN | apply IsS69.drew | apply IsS69.set_0 | apply IsS69.set_1 | refine IsS69.far ?_ NB215_214.out _ | refine IsS69.far ?_ NB215_222.out _) | exact HI215.out)) hg (IsS69.own_ne HI215.out HO_223002.out (by decide))); have n4_ := Aside0.mk (hb); have n5_ := Aside0.mk (ho); clear HO_223001; clear BK214; clear BK222; clear HI215; clear HB; clear HO_223002; have HO_223001 := n0_; have BK214 := n1_; have BK222 := n2_; have HI215 := n3_; have HB := n4_; have HO237 := n5_; clear n0_ n1_ n2_ n3_ n4_ n5_; clear ho hb hg hat; obtain ⟨Ao54, co54, eo54⟩ := Kd.R_slice HO237.out; subst eo54; have hcz55_0 : w53.cell? ⟨gb222, 0, none⟩ = some (.bool false) := (blk_cell BK222.out 0).trans rfl; have hcz55_1 : w53.cell? ⟨gb222, 1, none⟩ = some (u223001) := (blk_cell BK222.out 1).trans rfl; have hcz55_2 : w53.cell? ⟨gb222, 2, none⟩ = some (u223002) := (blk_cell BK222.out 2).trans rfl; have hfz55_0 := blk_frozen BK222.out 0; have hfz55_1 := blk_frozen BK222.out 1; have hfz55_2 := blk_frozen BK222.out 2))
            go_roundg kj19
            case measure => have := HJ3.out; have := HK2.out; have := HJ19.out; omega
            case rel => exact ⟨(wrap64 (x8_2 + 1)), (x215000_2), (t233), (t234), (false), (x223001_2), (y235), (u223001), (.slice Ao54 y235.length co54), (by first | rfl | (simp; done) | (simp [*]; done)), H', ⟨by have := HJ3.out; have := HK2.out; have := HJ19.out; omega⟩, ⟨by (with_reducible repeat (first | apply Kd.R_alloc | apply Kd.R_drewN | apply Kd.R_drew)); exact Kd.R_mono (Kd.R_far (p := ⟨gb222, 2, none⟩) (Kd.R_types HO_223001.out BK222.out (by decide)) (fun _ hk => hk.2) (.slice Ao54 y235.length co54)) (fun _ hk => trivial)⟩, ⟨by (with_reducible repeat (first | apply Kd.R_alloc | apply Kd.R_drewN | apply Kd.R_drew)); exact Kd.R_mono (Kd.R_far (p := ⟨gb222, 2, none⟩) (Kd.R_types HO237.out BK222.out (by decide)) (fun _ hk => hk.2) (.slice Ao54 y235.length co54)) (fun _ hk => trivial)⟩, ⟨by (with_reducible repeat (first | refine blk_drewN ?_ _ | refine blk_drew ?_ | refine blk_alloc ?_ _)); refine blk_far ?_ NB214_222.out _; (with_reducible repeat (first | refine blk_drewN ?_ _ | refine blk_drew ?_ | refine blk_alloc ?_ _)); exact BK214.out⟩, ⟨by (with_reducible repeat (first | refine blk_drewN ?_ _ | refine blk_drew ?_ | refine blk_alloc ?_ _)); refine blk_put (cs := #[.bool false, u223001, u223002]) ?_ 2 _ rfl; (with_reducible repeat (first | refine blk_drewN ?_ _ | refine blk_drew ?_ | refine blk_alloc ?_ _)); exact BK222.out⟩, ⟨by repeat (first | (with_reducible first | exact HI215.out | apply IsS69.alloc | apply IsS69.drewN | apply IsS69.drew | apply IsS69.set_0 | apply IsS69.set_1 | refine IsS69.far ?_ NB215_214.out _ | refine IsS69.far ?_ NB215_222.out _) | exact HI215.out)⟩, ⟨by repeat (first | (with_reducible first | exact HB.out | apply below_alloc | apply pw_below_drewN | apply below_drew1 | refine below_set ?_ (IsS69.ge HI215.out) | refine below_set ?_ GE214.out | refine below_set ?_ GE222.out) | exact HB.out)⟩⟩
           ·rw [if_neg c46] at H
            exact absurd H (by simp)
        ·replace c23 := Bool.eq_false_iff.mpr c23
         subst c23
         have H1 : ((coppiceref02_Reader_End.f x216000_2 x216001_2).bind fun bt238 => (if bt238.1 = 0 then ((coppiceref06_Right.f kj19 x223000_2 x223001_2 x223002_2).bind fun t241 => (if t241 = true then (some (x223000_2, x223001_2, x223002_2, 0)) else (some (false, ([] : List (S44)), ([] : List (S46)), 60)))) else (some (false, ([] : List (S44)), ([] : List (S46)), 60)))) = some (r1, r2, r3, r4) := by rw [if_neg (show ¬ (false = true) by decide)] at H; exact H
         clear H
         have H := H1
         clear H1
         replace H := Option.bind_eq_some_iff.mp H
         obtain ⟨⟨t238, t239, t240⟩, A560, H⟩ := H
         replace H : (if t238 = 0 then ((coppiceref06_Right.f kj19 x223000_2 x223001_2 x223002_2).bind fun t241 => (if t241 = true then (some (x223000_2, x223001_2, x223002_2, 0)) else (some (false, ([] : List (S44)), ([] : List (S46)), 60)))) else (some (false, ([] : List (S44)), ([] : List (S46)), 60))) = some (r1, r2, r3, r4) := H
         have A56 := Aside0.mk A560
         clear A560
         have A56q := Aside0.mk (show t239 = x216000_2 ∧ t240 = x216001_2 from by have h_ := A56.out; simp only [coppiceref02_Reader_End.f] at h_; (repeat' split at h_) <;> cases h_ <;> exact ⟨rfl, rfl⟩)
         by_cases c57 : t238 = 0
         ·rw [if_pos c57] at H
          have c57b0 : (t238 == 0) = true := beq_iff_eq.mpr c57
          have c57b1 : (t238 != 0) = false := bne_eq_false_iff_eq.mpr c57
          clear c57
          replace H := Option.bind_eq_some_iff.mp H
          obtain ⟨t241, A580, H⟩ := H
          replace H : (if t241 = true then (some (x223000_2, x223001_2, x223002_2, 0)) else (some (false, ([] : List (S44)), ([] : List (S46)), 60))) = some (r1, r2, r3, r4) := H
          have A58 := Aside0.mk A580
          clear A580
          by_cases c59 : t241 = true
          ·subst c59
           have H1 : (some (x223000_2, x223001_2, x223002_2, 0)) = some (r1, r2, r3, r4) := by rw [if_pos rfl] at H; exact H
           clear H
           have H := H1
           clear H1
           simp only [Option.some.injEq, Prod.mk.injEq] at H
           obtain ⟨rfl, rfl, rfl, rfl⟩ := H
           go_wp2_with (first | ((with_reducible refine gate_callee (f := 47) rfl ?_); refine goesL_ (some 69) rfl rfl Try.func47 (by kernel_rfl) rfl #[.pointer (some ⟨gb215, 0, none⟩)] rfl (by (try simp only [List.map_toArray, List.map_cons, List.map_nil]); first | done | rfl | (simp only [List.length_drop, List.length_take]; rfl)) ?_; (with_reducible refine (coppiceref02_Reader_End.calls gb215 x216000_2 x216001_2 t238 t239 t240 w _ ?side1 ?side2 A56.out).mono ?_); (case side1 => repeat (first | (with_reducible first | exact HI215.out | apply IsS69.alloc | apply IsS69.drewN | apply IsS69.drew | apply IsS69.set_0 | apply IsS69.set_1 | refine IsS69.far ?_ NB215_214.out _ | refine IsS69.far ?_ NB215_222.out _) | exact HI215.out)); (case side2 => repeat (first | (with_reducible first | exact HB.out | apply below_alloc | apply pw_below_drewN | apply below_drew1 | refine below_set ?_ (IsS69.ge HI215.out) | refine below_set ?_ GE214.out | refine below_set ?_ GE222.out) | exact HB.out)); rintro e w60 ⟨rfl, hi, hb, hk⟩; refine ⟨_, rfl, ?_⟩; (try rw [A56q.out.1] at hi); (try rw [A56q.out.2] at hi); have n0_ := Aside0.mk (Kd.R_mono (Kd.R_keep (IsS69.apart (show IsS69 w _ gb215 x216000_2 x216001_2 from by repeat (first | (with_reducible first | exact HI215.out | apply IsS69.alloc | apply IsS69.drewN | apply IsS69.drew | apply IsS69.set_0 | apply IsS69.set_1 | refine IsS69.far ?_ NB215_214.out _ | refine IsS69.far ?_ NB215_222.out _) | exact HI215.out)) (by (with_reducible repeat (first | apply Kd.R_alloc | apply Kd.R_drewN | apply Kd.R_drew)); exact HO_223001.out) (by decide)) hk (fun _ h => h.2)) (fun _ h => h.1)); have n1_ := Aside0.mk (Kd.R_mono (Kd.R_keep (IsS69.apart (show IsS69 w _ gb215 x216000_2 x216001_2 from by repeat (first | (with_reducible first | exact HI215.out | apply IsS69.alloc | apply IsS69.drewN | apply IsS69.drew | apply IsS69.set_0 | apply IsS69.set_1 | refine IsS69.far ?_ NB215_214.out _ | refine IsS69.far ?_ NB215_222.out _) | exact HI215.out)) (by (with_reducible repeat (first | apply Kd.R_alloc | apply Kd.R_drewN | apply Kd.R_drew)); exact HO_223002.out) (by decide)) hk (fun _ h => h.2)) (fun _ h => h.1)); have n2_ := Aside0.mk (KeepBut.blk hk (g' := gb214) (o := .cells #[.bool x215000_2, .slice none 0 0, .slice none 0 0] 25 (0, 0)) (by (with_reducible repeat (first | refine blk_drewN ?_ _ | refine blk_drew ?_ | refine blk_alloc ?_ _)); exact BK214.out) NB214_215.out (by simp)); have n3_ := Aside0.mk (KeepBut.blk hk (g' := gb222) (o := .cells #[.bool x223000_2, u223001, u223002] 25 (0, 0)) (by (with_reducible repeat (first | refine blk_drewN ?_ _ | refine blk_drew ?_ | refine blk_alloc ?_ _)); exact BK222.out) NB222_215.out (by simp)); have n4_ := Aside0.mk (hb); have n5_ := Aside0.mk (hi); clear HO_223001; clear HO_223002; clear BK214; clear BK222; clear HB; clear HI215; have HO_223001 := n0_; have HO_223002 := n1_; have BK214 := n2_; have BK222 := n3_; have HB := n4_; have HI215 := n5_; clear n0_ n1_ n2_ n3_ n4_ n5_; (try clear hb); (try clear hb2); (try clear hk); (try clear hi); have hnb61 := NB222_214.out; have hnc61 := NB214_222.out; have hnb62 := NB222_215.out; have hnc62 := NB215_222.out; have hcz63_0 : w60.cell? ⟨gb222, 0, none⟩ = some (.bool x223000_2) := (blk_cell BK222.out 0).trans rfl; have hcz63_1 : w60.cell? ⟨gb222, 1, none⟩ = some (u223001) := (blk_cell BK222.out 1).trans rfl; have hcz63_2 : w60.cell? ⟨gb222, 2, none⟩ = some (u223002) := (blk_cell BK222.out 2).trans rfl; have hfz63_0 := blk_frozen BK222.out 0; have hfz63_1 := blk_frozen BK222.out 1; have hfz63_2 := blk_frozen BK222.out 2; obtain ⟨Ao64, co64, eo64⟩ := Kd.R_slice HO_223001.out; subst eo64; obtain ⟨Ao65, co65, eo65⟩ := Kd.R_slice HO_223002.out; subst eo65) | (go_at_call 28; (with_reducible refine (coppiceref06_Right.calls kj19 x223000_2 _ _ x223001_2 _ _ x223002_2 true _ ?side1 ?side2 ?side3 ?side4 A58.out).mono ?_); (case side1 => repeat (first | exact (Kd.R_reads' HO_223001.out).2.2 | (with_reducible refine Kd.C_alloc ?_ _) | (with_reducible refine Kd.C_drewN ?_ _) | (with_reducible refine Kd.C_drew ?_))); (case side2 => exact (Kd.R_reads' HO_223001.out).2.1); (case side3 => repeat (first | exact (Kd.R_reads' HO_223002.out).2.2 | (with_reducible refine Kd.C_alloc ?_ _) | (with_reducible refine Kd.C_drewN ?_ _) | (with_reducible refine Kd.C_drew ?_))); (case side4 => exact (Kd.R_reads' HO_223002.out).2.1); rintro e w66 ⟨rfl, hb⟩; have n0_ := Aside0.mk (Kd.R_below (by (with_reducible repeat (first | apply Kd.R_alloc | apply Kd.R_drewN | apply Kd.R_drew)); exact HO_223001.out) hb); have n1_ := Aside0.mk (Kd.R_below (by (with_reducible repeat (first | apply Kd.R_alloc | apply Kd.R_drewN | apply Kd.R_drew)); exact HO_223002.out) hb); have n2_ := Aside0.mk (blk_below (g := gb214) (o := .cells #[.bool x215000_2, .slice none 0 0, .slice none 0 0] 25 (0, 0)) (by (with_reducible repeat (first | refine blk_drewN ?_ _ | refine blk_drew ?_ | refine blk_alloc ?_ _)); exact BK214.out) hb); have n3_ := Aside0.mk (blk_below (g := gb222) (o := .cells #[.bool x223000_2, .slice Ao64 x223001_2.length co64, .slice Ao65 x223002_2.length co65] 25 (0, 0)) (by (with_reducible repeat (first | refine blk_drewN ?_ _ | refine blk_drew ?_ | refine blk_alloc ?_ _)); exact BK222.out) hb); have n4_ := Aside0.mk (IsS69.below (by repeat (first | (with_reducible first | exact HI215.out | apply IsS69.alloc | apply IsS69.drewN | apply IsS69.drew | apply IsS69.set_0 | apply IsS69.set_1 | refine IsS69.far ?_ NB215_214.out _ | refine IsS69.far ?_ NB215_222.out _) | exact HI215.out)) hb); have n5_ := Aside0.mk (below_step (by repeat (first | (with_reducible first | exact HB.out | apply below_alloc | apply pw_below_drewN | apply below_drew1 | refine below_set ?_ (IsS69.ge HI215.out) | refine below_set ?_ GE214.out | refine below_set ?_ GE222.out) | exact HB.out)) hb); clear HO_223001; clear HO_223002; clear BK214; clear BK222; clear HI215; clear HB; have HO_223001 := n0_; have HO_223002 := n1_; have BK214 := n2_; have BK222 := n3_; have HI215 := n4_; have HB := n5_; clear n0_ n1_ n2_ n3_ n4_ n5_; (try clear hb); (try clear hb2); (try clear hk); (try clear hi); have hcz67_0 : w66.cell? ⟨gb222, 0, none⟩ = some (.bool x223000_2) := (blk_cell BK222.out 0).trans rfl; have hcz67_1 : w66.cell? ⟨gb222, 1, none⟩ = some (.slice Ao64 x223001_2.length co64) := (blk_cell BK222.out 1).trans rfl; have hcz67_2 : w66.cell? ⟨gb222, 2, none⟩ = some (.slice Ao65 x223002_2.length co65) := (blk_cell BK222.out 2).trans rfl; have hfz67_0 := blk_frozen BK222.out 0; have hfz67_1 := blk_frozen BK222.out 1; have hfz67_2 := blk_frozen BK222.out 2; have hnb68 := NB214_215.out; have hnc68 := NB215_214.out; have hcz69_0 : w66.cell? ⟨gb214, 0, none⟩ = some (.bool x215000_2) := (blk_cell BK214.out 0).trans rfl; have hcz69_1 : w66.cell? ⟨gb214, 1, none⟩ = some (.slice none 0 0) := (blk_cell BK214.out 1).trans rfl; have hcz69_2 : w66.cell? ⟨gb214, 2, none⟩ = some (.slice none 0 0) := (blk_cell BK214.out 2).trans rfl; have hfz69_0 := blk_frozen BK214.out 0; have hfz69_1 := blk_frozen BK214.out 1; have hfz69_2 := blk_frozen BK214.out 2))
           refine bodyPost_ret (results_ct rfl _ _ gb214 25 #[.bool x223000_2, .slice Ao64 x223001_2.length co64, .slice Ao65 x223002_2.length co65] (0, 0) _ rfl (by (with_reducible repeat (first | refine blk_drewN ?_ _ | refine blk_drew ?_ | refine blk_alloc ?_ _)); refine blk_put (cs := #[.bool x223000_2, .slice Ao64 x223001_2.length co64, .slice none 0 0]) ?_ 2 _ rfl; (with_reducible repeat (first | refine blk_drewN ?_ _ | refine blk_drew ?_ | refine blk_alloc ?_ _)); refine blk_put (cs := #[.bool x223000_2, .slice none 0 0, .slice none 0 0]) ?_ 1 _ rfl; (with_reducible repeat (first | refine blk_drewN ?_ _ | refine blk_drew ?_ | refine blk_alloc ?_ _)); refine blk_put (cs := #[.bool x215000_2, .slice none 0 0, .slice none 0 0]) ?_ 0 _ rfl; (with_reducible repeat (first | refine blk_drewN ?_ _ | refine blk_drew ?_ | refine blk_alloc ?_ _)); exact BK214.out) Try.underlying25 rfl (by kernel_rfl)) rfl ?_
           exact ⟨_, _, by first | rfl | (simp [errW_none, errW_some] <;> rfl) | (simp [*, errW_none, errW_some] <;> rfl), by (with_reducible repeat (first | apply Kd.R_alloc | apply Kd.R_drewN | apply Kd.R_drew)); exact Kd.R_mono (Kd.R_far (p := ⟨gb214, 2, none⟩) (Kd.R_far (p := ⟨gb214, 1, none⟩) (Kd.R_far (p := ⟨gb214, 0, none⟩) (Kd.R_types HO_223001.out BK214.out (by decide)) (fun _ hk => hk.2) (.bool x223000_2)) (fun _ hk => hk.2) (.slice Ao64 x223001_2.length co64)) (fun _ hk => hk.2) (.slice Ao65 x223002_2.length co65)) (fun _ hk => trivial), by (with_reducible repeat (first | apply Kd.R_alloc | apply Kd.R_drewN | apply Kd.R_drew)); exact Kd.R_mono (Kd.R_far (p := ⟨gb214, 2, none⟩) (Kd.R_far (p := ⟨gb214, 1, none⟩) (Kd.R_far (p := ⟨gb214, 0, none⟩) (Kd.R_types HO_223002.out BK214.out (by decide)) (fun _ hk => hk.2) (.bool x223000_2)) (fun _ hk => hk.2) (.slice Ao64 x223001_2.length co64)) (fun _ hk => hk.2) (.slice Ao65 x223002_2.length co65)) (fun _ hk => trivial), by repeat (first | (with_reducible first | exact HB.out | apply below_alloc | apply pw_below_drewN | apply below_drew1 | refine below_set ?_ (IsS69.ge HI215.out) | refine below_set ?_ GE214.out | refine below_set ?_ GE222.out) | exact HB.out)⟩
          ·replace c59 := Bool.eq_false_iff.mpr c59
           subst c59
           have H1 : (some (false, ([] : List (S44)), ([] : List (S46)), 60)) = some (r1, r2, r3, r4) := by rw [if_neg (show ¬ (false = true) by decide)] at H; exact H
           clear H
           have H := H1
           clear H1
           simp only [Option.some.injEq, Prod.mk.injEq] at H
           obtain ⟨rfl, rfl, rfl, rfl⟩ := H
           go_wp2_with (first | ((with_reducible refine gate_callee (f := 47) rfl ?_); refine goesL_ (some 69) rfl rfl Try.func47 (by kernel_rfl) rfl #[.pointer (some ⟨gb215, 0, none⟩)] rfl (by (try simp only [List.map_toArray, List.map_cons, List.map_nil]); first | done | rfl | (simp only [List.length_drop, List.length_take]; rfl)) ?_; (with_reducible refine (coppiceref02_Reader_End.calls gb215 x216000_2 x216001_2 t238 t239 t240 w _ ?side1 ?side2 A56.out).mono ?_); (case side1 => repeat (first | (with_reducible first | exact HI215.out | apply IsS69.alloc | apply IsS69.drewN | apply IsS69.drew | apply IsS69.set_0 | apply IsS69.set_1 | refine IsS69.far ?_ NB215_214.out _ | refine IsS69.far ?_ NB215_222.out _) | exact HI215.out)); (case side2 => repeat (first | (with_reducible first | exact HB.out | apply below_alloc | apply pw_below_drewN | apply below_drew1 | refine below_set ?_ (IsS69.ge HI215.out) | refine below_set ?_ GE214.out | refine below_set ?_ GE222.out) | exact HB.out)); rintro e w70 ⟨rfl, hi, hb, hk⟩; refine ⟨_, rfl, ?_⟩; (try rw [A56q.out.1] at hi); (try rw [A56q.out.2] at hi); have n0_ := Aside0.mk (Kd.R_mono (Kd.R_keep (IsS69.apart (show IsS69 w _ gb215 x216000_2 x216001_2 from by repeat (first | (with_reducible first | exact HI215.out | apply IsS69.alloc | apply IsS69.drewN | apply IsS69.drew | apply IsS69.set_0 | apply IsS69.set_1 | refine IsS69.far ?_ NB215_214.out _ | refine IsS69.far ?_ NB215_222.out _) | exact HI215.out)) (by (with_reducible repeat (first | apply Kd.R_alloc | apply Kd.R_drewN | apply Kd.R_drew)); exact HO_223001.out) (by decide)) hk (fun _ h => h.2)) (fun _ h => h.1)); have n1_ := Aside0.mk (Kd.R_mono (Kd.R_keep (IsS69.apart (show IsS69 w _ gb215 x216000_2 x216001_2 from by repeat (first | (with_reducible first | exact HI215.out | apply IsS69.alloc | apply IsS69.drewN | apply IsS69.drew | apply IsS69.set_0 | apply IsS69.set_1 | refine IsS69.far ?_ NB215_214.out _ | refine IsS69.far ?_ NB215_222.out _) | exact HI215.out)) (by (with_reducible repeat (first | apply Kd.R_alloc | apply Kd.R_drewN | apply Kd.R_drew)); exact HO_223002.out) (by decide)) hk (fun _ h => h.2)) (fun _ h => h.1)); have n2_ := Aside0.mk (KeepBut.blk hk (g' := gb214) (o := .cells #[.bool x215000_2, .slice none 0 0, .slice none 0 0] 25 (0, 0)) (by (with_reducible repeat (first | refine blk_drewN ?_ _ | refine blk_drew ?_ | refine blk_alloc ?_ _)); exact BK214.out) NB214_215.out (by simp)); have n3_ := Aside0.mk (KeepBut.blk hk (g' := gb222) (o := .cells #[.bool x223000_2, u223001, u223002] 25 (0, 0)) (by (with_reducible repeat (first | refine blk_drewN ?_ _ | refine blk_drew ?_ | refine blk_alloc ?_ _)); exact BK222.out) NB222_215.out (by simp)); have n4_ := Aside0.mk (hb); have n5_ := Aside0.mk (hi); clear HO_223001; clear HO_223002; clear BK214; clear BK222; clear HB; clear HI215; have HO_223001 := n0_; have HO_223002 := n1_; have BK214 := n2_; have BK222 := n3_; have HB := n4_; have HI215 := n5_; clear n0_ n1_ n2_ n3_ n4_ n5_; (try clear hb); (try clear hb2); (try clear hk); (try clear hi); have hnb71 := NB222_214.out; have hnc71 := NB214_222.out; have hnb72 := NB222_215.out; have hnc72 := NB215_222.out; have hcz73_0 : w70.cell? ⟨gb222, 0, none⟩ = some (.bool x223000_2) := (blk_cell BK222.out 0).trans rfl; have hcz73_1 : w70.cell? ⟨gb222, 1, none⟩ = some (u223001) := (blk_cell BK222.out 1).trans rfl; have hcz73_2 : w70.cell? ⟨gb222, 2, none⟩ = some (u223002) := (blk_cell BK222.out 2).trans rfl; have hfz73_0 := blk_frozen BK222.out 0; have hfz73_1 := blk_frozen BK222.out 1; have hfz73_2 := blk_frozen BK222.out 2; obtain ⟨Ao74, co74, eo74⟩ := Kd.R_slice HO_223001.out; subst eo74; obtain ⟨Ao75, co75, eo75⟩ := Kd.R_slice HO_223002.out; subst eo75) | (go_at_call 28; (with_reducible refine (coppiceref06_Right.calls kj19 x223000_2 _ _ x223001_2 _ _ x223002_2 false _ ?side1 ?side2 ?side3 ?side4 A58.out).mono ?_); (case side1 => repeat (first | exact (Kd.R_reads' HO_223001.out).2.2 | (with_reducible refine Kd.C_alloc ?_ _) | (with_reducible refine Kd.C_drewN ?_ _) | (with_reducible refine Kd.C_drew ?_))); (case side2 => exact (Kd.R_reads' HO_223001.out).2.1); (case side3 => repeat (first | exact (Kd.R_reads' HO_223002.out).2.2 | (with_reducible refine Kd.C_alloc ?_ _) | (with_reducible refine Kd.C_drewN ?_ _) | (with_reducible refine Kd.C_drew ?_))); (case side4 => exact (Kd.R_reads' HO_223002.out).2.1); rintro e w76 ⟨rfl, hb⟩; have n0_ := Aside0.mk (Kd.R_below (by (with_reducible repeat (first | apply Kd.R_alloc | apply Kd.R_drewN | apply Kd.R_drew)); exact HO_223001.out) hb); have n1_ := Aside0.mk (Kd.R_below (by (with_reducible repeat (first | apply Kd.R_alloc | apply Kd.R_drewN | apply Kd.R_drew)); exact HO_223002.out) hb); have n2_ := Aside0.mk (blk_below (g := gb214) (o := .cells #[.bool x215000_2, .slice none 0 0, .slice none 0 0] 25 (0, 0)) (by (with_reducible repeat (first | refine blk_drewN ?_ _ | refine blk_drew ?_ | refine blk_alloc ?_ _)); exact BK214.out) hb); have n3_ := Aside0.mk (blk_below (g := gb222) (o := .cells #[.bool x223000_2, .slice Ao74 x223001_2.length co74, .slice Ao75 x223002_2.length co75] 25 (0, 0)) (by (with_reducible repeat (first | refine blk_drewN ?_ _ | refine blk_drew ?_ | refine blk_alloc ?_ _)); exact BK222.out) hb); have n4_ := Aside0.mk (IsS69.below (by repeat (first | (with_reducible first | exact HI215.out | apply IsS69.alloc | apply IsS69.drewN | apply IsS69.drew | apply IsS69.set_0 | apply IsS69.set_1 | refine IsS69.far ?_ NB215_214.out _ | refine IsS69.far ?_ NB215_222.out _) | exact HI215.out)) hb); have n5_ := Aside0.mk (below_step (by repeat (first | (with_reducible first | exact HB.out | apply below_alloc | apply pw_below_drewN | apply below_drew1 | refine below_set ?_ (IsS69.ge HI215.out) | refine below_set ?_ GE214.out | refine below_set ?_ GE222.out) | exact HB.out)) hb); clear HO_223001; clear HO_223002; clear BK214; clear BK222; clear HI215; clear HB; have HO_223001 := n0_; have HO_223002 := n1_; have BK214 := n2_; have BK222 := n3_; have HI215 := n4_; have HB := n5_; clear n0_ n1_ n2_ n3_ n4_ n5_; (try clear hb); (try clear hb2); (try clear hk); (try clear hi); have hnb77 := NB214_215.out; have hnc77 := NB215_214.out; have hcz78_0 : w76.cell? ⟨gb214, 0, none⟩ = some (.bool x215000_2) := (blk_cell BK214.out 0).trans rfl; have hcz78_1 : w76.cell? ⟨gb214, 1, none⟩ = some (.slice none 0 0) := (blk_cell BK214.out 1).trans rfl; have hcz78_2 : w76.cell? ⟨gb214, 2, none⟩ = some (.slice none 0 0) := (blk_cell BK214.out 2).trans rfl; have hfz78_0 := blk_frozen BK214.out 0; have hfz78_1 := blk_frozen BK214.out 1; have hfz78_2 := blk_frozen BK214.out 2))
           refine bodyPost_ret (results_ct rfl _ _ gb214 25 #[.bool false, .slice none 0 0, .slice none 0 0] (0, 0) _ rfl (by (with_reducible repeat (first | refine blk_drewN ?_ _ | refine blk_drew ?_ | refine blk_alloc ?_ _)); refine blk_put (cs := #[.bool false, .slice none 0 0, .slice none 0 0]) ?_ 2 _ rfl; (with_reducible repeat (first | refine blk_drewN ?_ _ | refine blk_drew ?_ | refine blk_alloc ?_ _)); refine blk_put (cs := #[.bool false, .slice none 0 0, .slice none 0 0]) ?_ 1 _ rfl; (with_reducible repeat (first | refine blk_drewN ?_ _ | refine blk_drew ?_ | refine blk_alloc ?_ _)); refine blk_put (cs := #[.bool x215000_2, .slice none 0 0, .slice none 0 0]) ?_ 0 _ rfl; (with_reducible repeat (first | refine blk_drewN ?_ _ | refine blk_drew ?_ | refine blk_alloc ?_ _)); exact BK214.out) Try.underlying25 rfl (by kernel_rfl)) rfl ?_
           exact ⟨_, _, by first | rfl | (simp [errW_none, errW_some] <;> rfl) | (simp [*, errW_none, errW_some] <;> rfl), by first | exact Kd.R_nil _ _ _ _ _ | exact Kd.N_nil _ _ _ _ _ | exact Kd.V_nil _ _ _ _ _ | exact Kd.Q_nil _ _ _ _ _ | exact Kd.S_nil _ _ _ _ _, by first | exact Kd.R_nil _ _ _ _ _ | exact Kd.N_nil _ _ _ _ _ | exact Kd.V_nil _ _ _ _ _ | exact Kd.Q_nil _ _ _ _ _ | exact Kd.S_nil _ _ _ _ _, by repeat (first | (with_reducible first | exact HB.out | apply below_alloc | apply pw_below_drewN | apply below_drew1 | refine below_set ?_ (IsS69.ge HI215.out) | refine below_set ?_ GE214.out | refine below_set ?_ GE222.out) | exact HB.out)⟩
         ·rw [if_neg c57] at H
          have c57b0 : (t238 == 0) = false := beq_eq_false_iff_ne.mpr c57
          have c57b1 : (t238 != 0) = true := bne_iff_ne.mpr c57
          simp only [Option.some.injEq, Prod.mk.injEq] at H
          obtain ⟨rfl, rfl, rfl, rfl⟩ := H
          go_wp2_with (first | ((with_reducible refine gate_callee (f := 47) rfl ?_); refine goesL_ (some 69) rfl rfl Try.func47 (by kernel_rfl) rfl #[.pointer (some ⟨gb215, 0, none⟩)] rfl (by (try simp only [List.map_toArray, List.map_cons, List.map_nil]); first | done | rfl | (simp only [List.length_drop, List.length_take]; rfl)) ?_; (with_reducible refine (coppiceref02_Reader_End.calls gb215 x216000_2 x216001_2 t238 t239 t240 w _ ?side1 ?side2 A56.out).mono ?_); (case side1 => repeat (first | (with_reducible first | exact HI215.out | apply IsS69.alloc | apply IsS69.drewN | apply IsS69.drew | apply IsS69.set_0 | apply IsS69.set_1 | refine IsS69.far ?_ NB215_214.out _ | refine IsS69.far ?_ NB215_222.out _) | exact HI215.out)); (case side2 => repeat (first | (with_reducible first | exact HB.out | apply below_alloc | apply pw_below_drewN | apply below_drew1 | refine below_set ?_ (IsS69.ge HI215.out) | refine below_set ?_ GE214.out | refine below_set ?_ GE222.out) | exact HB.out)); rintro e w79 ⟨rfl, hi, hb, hk⟩; refine ⟨_, rfl, ?_⟩; (try rw [A56q.out.1] at hi); (try rw [A56q.out.2] at hi); have n0_ := Aside0.mk (Kd.R_mono (Kd.R_keep (IsS69.apart (show IsS69 w _ gb215 x216000_2 x216001_2 from by repeat (first | (with_reducible first | exact HI215.out | apply IsS69.alloc | apply IsS69.drewN | apply IsS69.drew | apply IsS69.set_0 | apply IsS69.set_1 | refine IsS69.far ?_ NB215_214.out _ | refine IsS69.far ?_ NB215_222.out _) | exact HI215.out)) (by (with_reducible repeat (first | apply Kd.R_alloc | apply Kd.R_drewN | apply Kd.R_drew)); exact HO_223001.out) (by decide)) hk (fun _ h => h.2)) (fun _ h => h.1)); have n1_ := Aside0.mk (Kd.R_mono (Kd.R_keep (IsS69.apart (show IsS69 w _ gb215 x216000_2 x216001_2 from by repeat (first | (with_reducible first | exact HI215.out | apply IsS69.alloc | apply IsS69.drewN | apply IsS69.drew | apply IsS69.set_0 | apply IsS69.set_1 | refine IsS69.far ?_ NB215_214.out _ | refine IsS69.far ?_ NB215_222.out _) | exact HI215.out)) (by (with_reducible repeat (first | apply Kd.R_alloc | apply Kd.R_drewN | apply Kd.R_drew)); exact HO_223002.out) (by decide)) hk (fun _ h => h.2)) (fun _ h => h.1)); have n2_ := Aside0.mk (KeepBut.blk hk (g' := gb214) (o := .cells #[.bool x215000_2, .slice none 0 0, .slice none 0 0] 25 (0, 0)) (by (with_reducible repeat (first | refine blk_drewN ?_ _ | refine blk_drew ?_ | refine blk_alloc ?_ _)); exact BK214.out) NB214_215.out (by simp)); have n3_ := Aside0.mk (KeepBut.blk hk (g' := gb222) (o := .cells #[.bool x223000_2, u223001, u223002] 25 (0, 0)) (by (with_reducible repeat (first | refine blk_drewN ?_ _ | refine blk_drew ?_ | refine blk_alloc ?_ _)); exact BK222.out) NB222_215.out (by simp)); have n4_ := Aside0.mk (hb); have n5_ := Aside0.mk (hi); clear HO_223001; clear HO_223002; clear BK214; clear BK222; clear HB; clear HI215; have HO_223001 := n0_; have HO_223002 := n1_; have BK214 := n2_; have BK222 := n3_; have HB := n4_; have HI215 := n5_; clear n0_ n1_ n2_ n3_ n4_ n5_; (try clear hb); (try clear hb2); (try clear hk); (try clear hi); have hnb80 := NB214_222.out; have hnc80 := NB222_214.out; have hnb81 := NB214_215.out; have hnc81 := NB215_214.out; have hcz82_0 : w79.cell? ⟨gb214, 0, none⟩ = some (.bool x215000_2) := (blk_cell BK214.out 0).trans rfl; have hcz82_1 : w79.cell? ⟨gb214, 1, none⟩ = some (.slice none 0 0) := (blk_cell BK214.out 1).trans rfl; have hcz82_2 : w79.cell? ⟨gb214, 2, none⟩ = some (.slice none 0 0) := (blk_cell BK214.out 2).trans rfl; have hfz82_0 := blk_frozen BK214.out 0; have hfz82_1 := blk_frozen BK214.out 1; have hfz82_2 := blk_frozen BK214.out 2))
          refine bodyPost_ret (results_ct rfl _ _ gb214 25 #[.bool false, .slice none 0 0, .slice none 0 0] (0, 0) _ rfl (by (with_reducible repeat (first | refine blk_drewN ?_ _ | refine blk_drew ?_ | refine blk_alloc ?_ _)); refine blk_put (cs := #[.bool false, .slice none 0 0, .slice none 0 0]) ?_ 2 _ rfl; (with_reducible repeat (first | refine blk_drewN ?_ _ | refine blk_drew ?_ | refine blk_alloc ?_ _)); refine blk_put (cs := #[.bool false, .slice none 0 0, .slice none 0 0]) ?_ 1 _ rfl; (with_reducible repeat (first | refine blk_drewN ?_ _ | refine blk_drew ?_ | refine blk_alloc ?_ _)); refine blk_put (cs := #[.bool x215000_2, .slice none 0 0, .slice none 0 0]) ?_ 0 _ rfl; (with_reducible repeat (first | refine blk_drewN ?_ _ | refine blk_drew ?_ | refine blk_alloc ?_ _)); exact BK214.out) Try.underlying25 rfl (by kernel_rfl)) rfl ?_
          exact ⟨_, _, by first | rfl | (simp [errW_none, errW_some] <;> rfl) | (simp [*, errW_none, errW_some] <;> rfl), by first | exact Kd.R_nil _ _ _ _ _ | exact Kd.N_nil _ _ _ _ _ | exact Kd.V_nil _ _ _ _ _ | exact Kd.Q_nil _ _ _ _ _ | exact Kd.S_nil _ _ _ _ _, by first | exact Kd.R_nil _ _ _ _ _ | exact Kd.N_nil _ _ _ _ _ | exact Kd.V_nil _ _ _ _ _ | exact Kd.Q_nil _ _ _ _ _ | exact Kd.S_nil _ _ _ _ _, by repeat (first | (with_reducible first | exact HB.out | apply below_alloc | apply pw_below_drewN | apply below_drew1 | refine below_set ?_ (IsS69.ge HI215.out) | refine below_set ?_ GE214.out | refine below_set ?_ GE222.out) | exact HB.out)⟩

end Go.Proofs.Ytdkbikaheagbfaa.PA
