-- WRITTEN BY a program of this session (pp.sh)
import Derived.Test.YtdkbikaheagbfaaPAx0
import Derived.Test.YtdkbikaheagbfaaPAx14
import Derived.Test.YtdkbikaheagbfaaPAx17
import Derived.Test.YtdkbikaheagbfaaPAx18
import Derived.Test.YtdkbikaheagbfaaPAx19
import Derived.Test.YtdkbikaheagbfaaPAx20
namespace Go.Proofs.Ytdkbikaheagbfaa.PA
open Go.RowKit Go.Proofs.YtdkbikaheagbfaaW.PrintWords Go.Proofs.YtdkbikaheagbfaaW.PrintLast Go.Proofs.YtdkbikaheagbfaaW.PrintMore Go.Proofs.Ytdkbikaheagbfaa.Plain
attribute [local go_sem] max2_int min2_int max_two min_two max_three min_three max_four min_four binOp_leq_s binOp_gtr_s binOp_geq_s lit_byte   -- for this text's walks alone
set_option linter.unusedVariables false
set_option linter.unusedSimpArgs false

/-! ### node_Decode: function 24 -/
mutual
def node_Decode.l0 : Nat → Int → Int → ByteArray → Int → Int → Bool → List (S44) → List (S46) → Option (Bool × (List (S44)) × (List (S46)) × Int)
 | 0, _, _, _, _, _, _, _, _ => none
 | k + 1, x6, x7, x171000, x171001, x171002, x172000, x172001, x172002 => if x7 > 0 then ((pack_Reader_Err.f x171000 x171001 x171002).bind fun bt180 => (node_Decode.j1 k x6 x7 (bt180.1 == 0) bt180.2.1 bt180.2.2.1 bt180.2.2.2 x172000 x172001 x172002)) else (node_Decode.j1 k x6 x7 false x171000 x171001 x171002 x172000 x172001 x172002)
def node_Decode.j1 : Nat → Int → Int → Bool → ByteArray → Int → Int → Bool → List (S44) → List (S46) → Option (Bool × (List (S44)) × (List (S46)) × Int)
 | 0, _, _, _, _, _, _, _, _, _ => none
 | k + 1, x6, x7, x20, x171000, x171001, x171002, x172000, x172001, x172002 => if x20 = true then (if x6 = 1 then ((pack_Reader_Text.f k x171000 x171001 x171002 272).bind fun bt184 => ((pack_Reader_Text.f k bt184.2.1 bt184.2.2.1 bt184.2.2.2 160).bind fun bt188 => (if x172001.length < 4398046511104 then (node_Decode.l0 k x6 (IntKind.u64.wrap (x7 - 1)) bt188.2.1 bt188.2.2.1 bt188.2.2.2 true (x172001 ++ [(⟨bt184.1, bt188.1⟩ : S44)]) x172002) else (none)))) else (if x6 = 2 then ((pack_Reader_Text.f k x171000 x171001 x171002 272).bind fun bt195 => ((pack_Reader_Short.f bt195.2.1 bt195.2.2.1 bt195.2.2.2).bind fun bt199 => (if x172002.length < 5864062014805 then (node_Decode.l0 k x6 (IntKind.u64.wrap (x7 - 1)) bt199.2.1 bt199.2.2.1 bt199.2.2.2 x172000 x172001 (x172002 ++ [(⟨bt195.1, wrap64 (mn bt199.1 4096)⟩ : S46)])) else (none)))) else (some (false, ([] : List (S44)), ([] : List (S46)), 60)))) else ((pack_Reader_End.f x171000 x171001 x171002).bind fun bt206 => (if bt206.1 = 0 then ((node_Check.f x172000 x172001 x172002).bind fun t210 => (if t210 = 0 then (some (x172000, x172001, x172002, 0)) else (some (false, ([] : List (S44)), ([] : List (S46)), 60)))) else (some (false, ([] : List (S44)), ([] : List (S46)), 60))))
end
def node_Decode.f (k : Nat) (a0 : ByteArray) : Option (Bool × (List (S44)) × (List (S46)) × Int) := (pack_Read.f a0).bind fun bt167 => ((pack_Reader_Byte.f bt167.1 bt167.2.1 bt167.2.2).bind fun bt172 => ((pack_Reader_Short.f bt172.2.1 bt172.2.2.1 bt172.2.2.2).bind fun bt176 => (node_Decode.l0 k bt172.1 bt176.1 bt176.2.1 bt176.2.2.1 bt176.2.2.2 false ([] : List (S44)) ([] : List (S46)))))
theorem node_Decode.mono_l : ∀ k, (∀ y0 y1 y2 y3 y4 y5 y6 y7, LeO (node_Decode.l0 k y0 y1 y2 y3 y4 y5 y6 y7) (node_Decode.l0 (k + 1) y0 y1 y2 y3 y4 y5 y6 y7)) ∧ (∀ y0 y1 y2 y3 y4 y5 y6 y7 y8, LeO (node_Decode.j1 k y0 y1 y2 y3 y4 y5 y6 y7 y8) (node_Decode.j1 (k + 1) y0 y1 y2 y3 y4 y5 y6 y7 y8))
 | 0 => ⟨fun _ _ _ _ _ _ _ _ r h => by simp [node_Decode.l0] at h, fun _ _ _ _ _ _ _ _ _ r h => by simp [node_Decode.j1] at h⟩
 | k + 1 => by
  obtain ⟨ih0, ih1⟩ := node_Decode.mono_l k
  refine ⟨?_, ?_⟩
  ·intro y0 y1 y2 y3 y4 y5 y6 y7
   unfold node_Decode.l0
   repeat' first
   | (with_reducible exact ih0 _ _ _ _ _ _ _ _)
   | (with_reducible exact ih1 _ _ _ _ _ _ _ _ _)
   | (with_reducible exact pack_Reader_Text.mono _ _ _ _ _)
   | (with_reducible exact LeO.refl _)
   | (with_reducible exact LeO.none _)
   | (with_reducible refine LeO.ite ?_ ?_)
   | (with_reducible refine LeO.bind ?_ (fun _ => ?_))
   | exact ih0 _ _ _ _ _ _ _ _
   | exact ih1 _ _ _ _ _ _ _ _ _
   | exact pack_Reader_Text.mono _ _ _ _ _
   | exact LeO.none _
   | refine LeO.ite ?_ ?_
   | refine LeO.bind ?_ (fun _ => ?_)
  ·intro y0 y1 y2 y3 y4 y5 y6 y7 y8
   unfold node_Decode.j1
   repeat' first
   | (with_reducible exact ih0 _ _ _ _ _ _ _ _)
   | (with_reducible exact ih1 _ _ _ _ _ _ _ _ _)
   | (with_reducible exact pack_Reader_Text.mono _ _ _ _ _)
   | (with_reducible exact LeO.refl _)
   | (with_reducible exact LeO.none _)
   | (with_reducible refine LeO.ite ?_ ?_)
   | (with_reducible refine LeO.bind ?_ (fun _ => ?_))
   | exact ih0 _ _ _ _ _ _ _ _
   | exact ih1 _ _ _ _ _ _ _ _ _
   | exact pack_Reader_Text.mono _ _ _ _ _
   | exact LeO.none _
   | refine LeO.ite ?_ ?_
   | refine LeO.bind ?_ (fun _ => ?_)
theorem node_Decode.mono : ∀ a0 k, LeO (node_Decode.f k a0) (node_Decode.f (k + 1) a0) := by
 intro a0 k
 obtain ⟨ih0, ih1⟩ := node_Decode.mono_l k
 unfold node_Decode.f
 repeat' first
   | (with_reducible exact ih0 _ _ _ _ _ _ _ _)
   | (with_reducible exact ih1 _ _ _ _ _ _ _ _ _)
   | (with_reducible exact pack_Reader_Text.mono _ _ _ _ _)
   | (with_reducible exact LeO.refl _)
   | (with_reducible exact LeO.none _)
   | (with_reducible refine LeO.ite ?_ ?_)
   | (with_reducible refine LeO.bind ?_ (fun _ => ?_))
   | exact ih0 _ _ _ _ _ _ _ _
   | exact ih1 _ _ _ _ _ _ _ _ _
   | exact pack_Reader_Text.mono _ _ _ _ _
   | exact LeO.none _
   | refine LeO.ite ?_ ?_
   | refine LeO.bind ?_ (fun _ => ?_)
def node_Decode.T11 : Bool × List (List Nat × List Nat) := (true, [([], []), ([0], [0]), ([], []), ([2], [2]), ([], []), ([4, 3], [4]), ([3, 5], [3, 5]), ([6], [6]), ([1, 7, 5], [1, 7]), ([0, 1, 2, 3, 4, 5, 6, 7, 8], []), ([9, 8, 8, 0, 1, 2, 3, 4, 5, 6, 7, 8], [8, 9])])
def node_Decode.B11 : List Nat := [0, 1, 0, 4, 0, 28, 60, 124, 255, 511, 1023]
theorem node_Decode.tab11 : rtab .any (opsOf Try.f24 11) = node_Decode.T11 := by kernel_rfl
theorem node_Decode.bits11 : waitsOk node_Decode.T11.2 node_Decode.B11 = true := by kernel_rfl
def node_Decode.T13 : Bool × List (List Nat × List Nat) := (true, [([], []), ([0], [0]), ([], []), ([2], [2]), ([], []), ([4, 3], [4]), ([5], [5]), ([6], [6]), ([3, 7], [3, 7]), ([8], [8]), ([1, 9, 5], [1, 9]), ([0, 1, 2, 3, 4, 5, 6, 7, 8, 9, 10], []), ([11, 10, 10, 0, 1, 2, 3, 4, 5, 6, 7, 8, 9, 10], [10, 11])])
def node_Decode.B13 : List Nat := [0, 1, 0, 4, 0, 28, 60, 124, 252, 508, 1023, 2047, 4095]
theorem node_Decode.tab13 : rtab .any (opsOf Try.f24 13) = node_Decode.T13 := by kernel_rfl
theorem node_Decode.bits13 : waitsOk node_Decode.T13.2 node_Decode.B13 = true := by kernel_rfl
set_option maxHeartbeats 8000000 in
set_option maxRecDepth 100000 in
theorem node_Decode.calls (k : Nat) (a0 : ByteArray) (r1 : Bool) (r2 : List (S44)) (r3 : List (S46)) (r4 : Int) (w : World) (h : node_Decode.f k a0 = some (r1, r2, r3, r4)) :
  Calls Try.prog 24 #[.string a0] w fun e w' => ∃ v1_ v2_ : Value, e = .returned (.tuple #[.agg #[.bool r1, v1_, v2_], .int .i64 r4]) ∧ Kd.R k44 44 w' w.heap.size (fun _ => True) v1_ r2 ∧ Kd.R k46 46 w' w.heap.size (fun _ => True) v2_ r3 ∧ Below w.heap.size w w' := by
 have hu25 := Try.underlying25
 have hu44 := Try.underlying44
 have hu46 := Try.underlying46
 have HB := Aside0.mk (Below.refl w.heap.size w)
 have H : ((pack_Read.f a0).bind fun bt167 => ((pack_Reader_Byte.f bt167.1 bt167.2.1 bt167.2.2).bind fun bt172 => ((pack_Reader_Short.f bt172.2.1 bt172.2.2.1 bt172.2.2.2).bind fun bt176 => (node_Decode.l0 k bt172.1 bt176.1 bt176.2.1 bt176.2.2.1 bt176.2.2.2 false ([] : List (S44)) ([] : List (S46)))))) = some (r1, r2, r3, r4) := h
 clear h
 replace H := Option.bind_eq_some_iff.mp H
 obtain ⟨⟨t167, t168, t169⟩, A20, H⟩ := H
 replace H : ((pack_Reader_Byte.f t167 t168 t169).bind fun bt172 => ((pack_Reader_Short.f bt172.2.1 bt172.2.2.1 bt172.2.2.2).bind fun bt176 => (node_Decode.l0 k bt172.1 bt176.1 bt176.2.1 bt176.2.2.1 bt176.2.2.2 false ([] : List (S44)) ([] : List (S46))))) = some (r1, r2, r3, r4) := H
 have A2 := Aside0.mk A20
 clear A20
 replace H := Option.bind_eq_some_iff.mp H
 obtain ⟨⟨t172, t173, t174, t175⟩, A30, H⟩ := H
 replace H : ((pack_Reader_Short.f t173 t174 t175).bind fun bt176 => (node_Decode.l0 k t172 bt176.1 bt176.2.1 bt176.2.2.1 bt176.2.2.2 false ([] : List (S44)) ([] : List (S46)))) = some (r1, r2, r3, r4) := H
 have A3 := Aside0.mk A30
 clear A30
 replace H := Option.bind_eq_some_iff.mp H
 obtain ⟨⟨t176, t177, t178, t179⟩, A40, H⟩ := H
 replace H : (node_Decode.l0 k t172 t176 t177 t178 t179 false ([] : List (S44)) ([] : List (S46))) = some (r1, r2, r3, r4) := H
 have A4 := Aside0.mk A40
 clear A40
 have H' := Aside0.mk H
 clear H
 go_enter Try.func24, Try.ntmps24
 go_wp2_with (first | ((with_reducible refine gate_dst (N := 2) rfl ?_); refine box_event ?hg (N := 2) ?hd (cs := #[.bool false, .slice none 0 0, .slice none 0 0]) (t := 25) ?hr ?_; (case hd => rfl); (case hg => rfl); (case hr => first | (go_simp; done) | (go_simp; rfl)); intro gb166 hg w5 hbox hb; have n0_ := Aside0.mk (below_step (by repeat (first | (with_reducible first | exact HB.out | apply below_alloc | apply pw_below_drewN | apply below_drew1) | exact HB.out)) hb); have n1_ := Aside0.mk (hbox); have n2_ := Aside0.mk ((by rw [hg]; exact (below_size (by repeat (first | (with_reducible first | exact HB.out | apply below_alloc | apply pw_below_drewN | apply below_drew1) | exact HB.out))) : w.heap.size ≤ gb166)); have n3_ := Aside0.mk ((by rw [hg]; exact (below_size (by repeat (first | (with_reducible first | exact HB.out | apply below_alloc | apply pw_below_drewN | apply below_drew1) | exact HB.out))) : w.heap.size ≤ gb166)); clear HB; have HB := n0_; have BK166 := n1_; have GW166 := n2_; have GE166 := n3_; clear n0_ n1_ n2_ n3_; clear hb hbox hg) | ((with_reducible refine gate_callee (f := 38) rfl ?_); refine goesL_ (some 9) rfl rfl Try.func38 (by kernel_rfl) rfl #[.string a0] rfl (by (try simp only [List.map_toArray, List.map_cons, List.map_nil]); first | done | rfl | (simp only [List.length_drop, List.length_take]; rfl)) ?_; (with_reducible refine (pack_Read.calls a0 t167 t168 t169 w _ ?side1 A2.out).mono ?_); (case side1 => repeat (first | (with_reducible first | exact HB.out | apply below_alloc | apply pw_below_drewN | apply below_drew1 | refine below_set ?_ GE166.out) | exact HB.out)); rintro e w6 ⟨g170, rfl, hi, hb, hb2⟩; refine ⟨_, rfl, ?_⟩; have n0_ := Aside0.mk (blk_below (g := gb166) (o := .cells #[.bool false, .slice none 0 0, .slice none 0 0] 25 (0, 0)) (by (with_reducible repeat (first | refine blk_drewN ?_ _ | refine blk_drew ?_ | refine blk_alloc ?_ _)); exact BK166.out) hb2); have n1_ := Aside0.mk (hb); have n2_ := Aside0.mk (hi); have n3_ := Aside0.mk (IsS100.ne_blk hi (blk_below (g := gb166) (o := .cells #[.bool false, .slice none 0 0, .slice none 0 0] 25 (0, 0)) (by (with_reducible repeat (first | refine blk_drewN ?_ _ | refine blk_drew ?_ | refine blk_alloc ?_ _)); exact BK166.out) hb2) (by decide)); have n4_ := Aside0.mk (Ne.symm (IsS100.ne_blk hi (blk_below (g := gb166) (o := .cells #[.bool false, .slice none 0 0, .slice none 0 0] 25 (0, 0)) (by (with_reducible repeat (first | refine blk_drewN ?_ _ | refine blk_drew ?_ | refine blk_alloc ?_ _)); exact BK166.out) hb2) (by decide))); clear BK166; clear HB; have BK166 := n0_; have HB := n1_; have HI170 := n2_; have NB170_166 := n3_; have NB166_170 := n4_; clear n0_ n1_ n2_ n3_ n4_; (try clear hb); (try clear hb2); (try clear hk); (try clear hi)) | ((with_reducible refine gate_dst (N := 5) rfl ?_); refine box_event ?hg (N := 5) ?hd (cs := #[.bool false, .slice none 0 0, .slice none 0 0]) (t := 25) ?hr ?_; (case hd => rfl); (case hg => rfl); (case hr => first | (go_simp; done) | (go_simp; rfl)); intro gb171 hg w7 hbox hb; have n0_ := Aside0.mk (blk_below (g := gb166) (o := .cells #[.bool false, .slice none 0 0, .slice none 0 0] 25 (0, 0)) (by (with_reducible repeat (first | refine blk_drewN ?_ _ | refine blk_drew ?_ | refine blk_alloc ?_ _)); exact BK166.out) hb); have n1_ := Aside0.mk (IsS100.below (by repeat (first | (with_reducible first | exact HI170.out | apply IsS100.alloc | apply IsS100.drewN | apply IsS100.drew | apply IsS100.set_0 | apply IsS100.set_1 | apply IsS100.set_2 | refine IsS100.far ?_ NB170_166.out _) | exact HI170.out)) hb); have n2_ := Aside0.mk (below_step (by repeat (first | (with_reducible first | exact HB.out | apply below_alloc | apply pw_below_drewN | apply below_drew1 | refine below_set ?_ (IsS100.ge HI170.out) | refine below_set ?_ GE166.out) | exact HB.out)) hb); have n3_ := Aside0.mk (hbox); have n4_ := Aside0.mk ((by rw [hg]; exact (below_size (by repeat (first | (with_reducible first | exact HB.out | apply below_alloc | apply pw_below_drewN | apply below_drew1 | refine below_set ?_ (IsS100.ge HI170.out) | refine below_set ?_ GE166.out) | exact HB.out))) : w.heap.size ≤ gb171)); have n5_ := Aside0.mk ((by rw [hg]; exact (below_size (by repeat (first | (with_reducible first | exact HB.out | apply below_alloc | apply pw_below_drewN | apply below_drew1 | refine below_set ?_ (IsS100.ge HI170.out) | refine below_set ?_ GE166.out) | exact HB.out))) : w.heap.size ≤ gb171)); have n6_ := Aside0.mk ((by rw [hg]; exact Nat.ne_of_lt (blk_lt (g := gb166) (o := .cells #[.bool false, .slice none 0 0, .slice none 0 0] 25 (0, 0)) (by (with_reducible repeat (first | refine blk_drewN ?_ _ | refine blk_drew ?_ | refine blk_alloc ?_ _)); exact BK166.out)) : gb166 ≠ gb171)); have n7_ := Aside0.mk ((by rw [hg]; exact Nat.ne_of_gt (blk_lt (g := gb166) (o := .cells #[.bool false, .slice none 0 0, .slice none 0 0] 25 (0, 0)) (by (with_reducible repeat (first | refine blk_drewN ?_ _ | refine blk_drew ?_ | refine blk_alloc ?_ _)); exact BK166.out)) : gb171 ≠ gb166)); have n8_ := Aside0.mk ((by rw [hg]; exact Nat.ne_of_lt (IsS100.lt (show IsS100 w _ g170 t167 t168 t169 from by repeat (first | (with_reducible first | exact HI170.out | apply IsS100.alloc | apply IsS100.drewN | apply IsS100.drew | apply IsS100.set_0 | apply IsS100.set_1 | apply IsS100.set_2 | refine IsS100.far ?_ NB170_166.out _) | exact HI170.out))) : g170 ≠ gb171)); have n9_ := Aside0.mk ((by rw [hg]; exact Nat.ne_of_gt (IsS100.lt (show IsS100 w _ g170 t167 t168 t169 from by repeat (first | (with_reducible first | exact HI170.out | apply IsS100.alloc | apply IsS100.drewN | apply IsS100.drew | apply IsS100.set_0 | apply IsS100.set_1 | apply IsS100.set_2 | refine IsS100.far ?_ NB170_166.out _) | exact HI170.out))) : gb171 ≠ g170)); clear BK166; clear HI170; clear HB; have BK166 := n0_; have HI170 := n1_; have HB := n2_; have BK171 := n3_; have GW171 := n4_; have GE171 := n5_; have NB166_171 := n6_; have NB171_166 := n7_; have NB170_171 := n8_; have NB171_170 := n9_; clear n0_ n1_ n2_ n3_ n4_ n5_ n6_ n7_ n8_ n9_; clear hb hbox hg) | ((with_reducible refine gate_callee (f := 39) rfl ?_); refine goesL_ (some 11) rfl rfl Try.func39 (by kernel_rfl) rfl #[.pointer (some ⟨g170, 0, none⟩)] rfl (by (try simp only [List.map_toArray, List.map_cons, List.map_nil]); first | done | rfl | (simp only [List.length_drop, List.length_take]; rfl)) ?_; (with_reducible refine (pack_Reader_Byte.calls g170 t167 t168 t169 t172 t173 t174 t175 w _ ?side1 ?side2 A3.out).mono ?_); (case side1 => repeat (first | (with_reducible first | exact HI170.out | apply IsS100.alloc | apply IsS100.drewN | apply IsS100.drew | apply IsS100.set_0 | apply IsS100.set_1 | apply IsS100.set_2 | refine IsS100.far ?_ NB170_166.out _ | refine IsS100.far ?_ NB170_171.out _) | exact HI170.out)); (case side2 => repeat (first | (with_reducible first | exact HB.out | apply below_alloc | apply pw_below_drewN | apply below_drew1 | refine below_set ?_ (IsS100.ge HI170.out) | refine below_set ?_ GE166.out | refine below_set ?_ GE171.out) | exact HB.out)); rintro e w8 ⟨rfl, hi, hb, hk⟩; refine ⟨_, rfl, ?_⟩; have n0_ := Aside0.mk (KeepBut.blk hk (g' := gb166) (o := .cells #[.bool false, .slice none 0 0, .slice none 0 0] 25 (0, 0)) (by (with_reducible repeat (first | refine blk_drewN ?_ _ | refine blk_drew ?_ | refine blk_alloc ?_ _)); exact BK166.out) NB166_170.out (by simp)); have n1_ := Aside0.mk (KeepBut.blk hk (g' := gb171) (o := .cells #[.bool false, .slice none 0 0, .slice none 0 0] 25 (0, 0)) (by (with_reducible repeat (first | refine blk_drewN ?_ _ | refine blk_drew ?_ | refine blk_alloc ?_ _)); exact BK171.out) NB171_170.out (by simp)); have n2_ := Aside0.mk (hb); have n3_ := Aside0.mk (hi); clear BK166; clear BK171; clear HB; clear HI170; have BK166 := n0_; have BK171 := n1_; have HB := n2_; have HI170 := n3_; clear n0_ n1_ n2_ n3_; (try clear hb); (try clear hb2); (try clear hk); (try clear hi)) | ((with_reducible refine gate_callee (f := 40) rfl ?_); refine goesL_ (some 13) rfl rfl Try.func40 (by kernel_rfl) rfl #[.pointer (some ⟨g170, 0, none⟩)] rfl (by (try simp only [List.map_toArray, List.map_cons, List.map_nil]); first | done | rfl | (simp only [List.length_drop, List.length_take]; rfl)) ?_; (with_reducible refine (pack_Reader_Short.calls g170 t173 t174 t175 t176 t177 t178 t179 w _ ?side1 ?side2 A4.out).mono ?_); (case side1 => repeat (first | (with_reducible first | exact HI170.out | apply IsS100.alloc | apply IsS100.drewN | apply IsS100.drew | apply IsS100.set_0 | apply IsS100.set_1 | apply IsS100.set_2 | refine IsS100.far ?_ NB170_166.out _ | refine IsS100.far ?_ NB170_171.out _) | exact HI170.out)); (case side2 => repeat (first | (with_reducible first | exact HB.out | apply below_alloc | apply pw_below_drewN | apply below_drew1 | refine below_set ?_ (IsS100.ge HI170.out) | refine below_set ?_ GE166.out | refine below_set ?_ GE171.out) | exact HB.out)); rintro e w9 ⟨rfl, hi, hb, hk⟩; refine ⟨_, rfl, ?_⟩; have n0_ := Aside0.mk (KeepBut.blk hk (g' := gb166) (o := .cells #[.bool false, .slice none 0 0, .slice none 0 0] 25 (0, 0)) (by (with_reducible repeat (first | refine blk_drewN ?_ _ | refine blk_drew ?_ | refine blk_alloc ?_ _)); exact BK166.out) NB166_170.out (by simp)); have n1_ := Aside0.mk (KeepBut.blk hk (g' := gb171) (o := .cells #[.bool false, .slice none 0 0, .slice none 0 0] 25 (0, 0)) (by (with_reducible repeat (first | refine blk_drewN ?_ _ | refine blk_drew ?_ | refine blk_alloc ?_ _)); exact BK171.out) NB171_170.out (by simp)); have n2_ := Aside0.mk (hb); have n3_ := Aside0.mk (hi); clear BK166; clear BK171; clear HB; clear HI170; have BK166 := n0_; have BK171 := n1_; have HB := n2_; have HI170 := n3_; clear n0_ n1_ n2_ n3_; (try clear hb); (try clear hb2); (try clear hk); (try clear hi)))
 go_loopg [7] k (fun kq v7 w' => ∃ (x7_1 : Int) (x167000_1 : Bool) (x171000_1 : ByteArray) (x171001_1 : Int) (x171002_1 : Int) (x172000_1 : Bool) (x172001_1 : List (S44)) (x172002_1 : List (S46)) (u172001 : Value) (u172002 : Value), v7 = .int .u64 x7_1 ∧ Aside0 (node_Decode.l0 kq t172 x7_1 x171000_1 x171001_1 x171002_1 x172000_1 x172001_1 x172002_1 = some (r1, r2, r3, r4)) ∧ Aside0 (kq ≤ k) ∧ Aside0 (Kd.R k44 44 w' w.heap.size (fun _ => True) u172001 x172001_1) ∧ Aside0 (Kd.R k46 46 w' w.heap.size (fun _ => True) u172002 x172002_1) ∧ Aside0 (w'.heap[gb166]? = some (.cells #[.bool x167000_1, (.slice none 0 0), (.slice none 0 0)] 25 (0, 0))) ∧ Aside0 (w'.heap[gb171]? = some (.cells #[.bool x172000_1, u172001, u172002] 25 (0, 0))) ∧ Aside0 (IsS100 w w' g170 x171000_1 x171001_1 x171002_1) ∧ Aside0 (Below w.heap.size w w'))
 case atStart => exact ⟨(t176), (false), (t177), (t178), (t179), (false), (([] : List (S44))), (([] : List (S46))), (.slice none 0 0), (.slice none 0 0), (by first | rfl | (simp; done) | (simp [*]; done)), H', ⟨Nat.le_refl _⟩, ⟨by first | exact Kd.R_nil _ _ _ _ _ | exact Kd.N_nil _ _ _ _ _ | exact Kd.V_nil _ _ _ _ _ | exact Kd.Q_nil _ _ _ _ _ | exact Kd.S_nil _ _ _ _ _⟩, ⟨by first | exact Kd.R_nil _ _ _ _ _ | exact Kd.N_nil _ _ _ _ _ | exact Kd.V_nil _ _ _ _ _ | exact Kd.Q_nil _ _ _ _ _ | exact Kd.S_nil _ _ _ _ _⟩, ⟨by (with_reducible repeat (first | refine blk_drewN ?_ _ | refine blk_drew ?_ | refine blk_alloc ?_ _)); exact BK166.out⟩, ⟨by (with_reducible repeat (first | refine blk_drewN ?_ _ | refine blk_drew ?_ | refine blk_alloc ?_ _)); exact BK171.out⟩, ⟨by repeat (first | (with_reducible first | exact HI170.out | apply IsS100.alloc | apply IsS100.drewN | apply IsS100.drew | apply IsS100.set_0 | apply IsS100.set_1 | apply IsS100.set_2 | refine IsS100.far ?_ NB170_166.out _ | refine IsS100.far ?_ NB170_171.out _) | exact HI170.out)⟩, ⟨by repeat (first | (with_reducible first | exact HB.out | apply below_alloc | apply pw_below_drewN | apply below_drew1 | refine below_set ?_ (IsS100.ge HI170.out) | refine below_set ?_ GE166.out | refine below_set ?_ GE171.out) | exact HB.out)⟩⟩
 case round =>
  clear H'
  try clear c2
  try clear p2
  try clear c3
  try clear c4
  obtain ⟨x7_1, x167000_1, x171000_1, x171001_1, x171002_1, x172000_1, x172001_1, x172002_1, u172001, u172002, rfl, HA, HK1, HO_172001, HO_172002, BK166, BK171, HI170, HB⟩ := hrel
  cases gk with
  | zero => exact absurd HA.out (by simp [node_Decode.l0])
  | succ k1 =>
   have H := HA.out
   clear HA
   simp only [node_Decode.l0] at H
   have HC10 := Aside0.mk H
   clear H
   go_upto_region 5 with (fail)
   go_cut [20] (fun v20 wc => ∃ (kq : Nat) (x20_9 : Bool) (x171000_9 : ByteArray) (x171001_9 : Int) (x171002_9 : Int), v20 = .bool x20_9 ∧ Aside0 (node_Decode.j1 kq t172 x7_1 x20_9 x171000_9 x171001_9 x171002_9 x172000_1 x172001_1 x172002_1 = some (r1, r2, r3, r4)) ∧ Aside0 (kq ≤ k1) ∧ Aside0 (Kd.R k44 44 wc w.heap.size (fun _ => True) u172001 x172001_1) ∧ Aside0 (Kd.R k46 46 wc w.heap.size (fun _ => True) u172002 x172002_1) ∧ Aside0 (wc.heap[gb166]? = some (.cells #[.bool x167000_1, (.slice none 0 0), (.slice none 0 0)] 25 (0, 0))) ∧ Aside0 (wc.heap[gb171]? = some (.cells #[.bool x172000_1, u172001, u172002] 25 (0, 0))) ∧ Aside0 (IsS100 w wc g170 x171000_9 x171001_9 x171002_9) ∧ Aside0 (Below w.heap.size w wc))
   case first =>
    have H := HC10.out
    clear HC10
    by_cases c11 : x7_1 > 0
    ·rw [if_pos c11] at H
     have c11b0 : decide (0 < x7_1) = true := decide_eq_true c11
     clear c11
     (first | rw [c11b0] | (simp only [i64_w, i32_w]; rw [c11b0]) | skip)
     replace H := Option.bind_eq_some_iff.mp H
     obtain ⟨⟨t180, t181, t182, t183⟩, A120, H⟩ := H
     replace H : (node_Decode.j1 k1 t172 x7_1 (t180 == 0) t181 t182 t183 x172000_1 x172001_1 x172002_1) = some (r1, r2, r3, r4) := H
     have A12 := Aside0.mk A120
     clear A120
     have H' := Aside0.mk H
     clear H
     go_wp2_with (first | (go_at_call 41; (with_reducible refine (pack_Reader_Err.calls g170 x171000_1 x171001_1 x171002_1 t180 t181 t182 t183 w _ ?side1 ?side2 A12.out).mono ?_); (case side1 => repeat (first | (with_reducible first | exact HI170.out | apply IsS100.alloc | apply IsS100.drewN | apply IsS100.drew | apply IsS100.set_0 | apply IsS100.set_1 | apply IsS100.set_2 | refine IsS100.far ?_ NB170_166.out _ | refine IsS100.far ?_ NB170_171.out _) | exact HI170.out)); (case side2 => repeat (first | (with_reducible first | exact HB.out | apply below_alloc | apply pw_below_drewN | apply below_drew1 | refine below_set ?_ (IsS100.ge HI170.out) | refine below_set ?_ GE166.out | refine below_set ?_ GE171.out) | exact HB.out)); rintro e w13 ⟨rfl, hi, hb, hk⟩; have n0_ := Aside0.mk (Kd.R_mono (Kd.R_keep (IsS100.apart (show IsS100 w _ g170 x171000_1 x171001_1 x171002_1 from by repeat (first | (with_reducible first | exact HI170.out | apply IsS100.alloc | apply IsS100.drewN | apply IsS100.drew | apply IsS100.set_0 | apply IsS100.set_1 | apply IsS100.set_2 | refine IsS100.far ?_ NB170_166.out _ | refine IsS100.far ?_ NB170_171.out _) | exact HI170.out)) (by (with_reducible repeat (first | apply Kd.R_alloc | apply Kd.R_drewN | apply Kd.R_drew)); exact HO_172001.out) (by decide)) hk (fun _ h => h.2)) (fun _ h => h.1)); have n1_ := Aside0.mk (Kd.R_mono (Kd.R_keep (IsS100.apart (show IsS100 w _ g170 x171000_1 x171001_1 x171002_1 from by repeat (first | (with_reducible first | exact HI170.out | apply IsS100.alloc | apply IsS100.drewN | apply IsS100.drew | apply IsS100.set_0 | apply IsS100.set_1 | apply IsS100.set_2 | refine IsS100.far ?_ NB170_166.out _ | refine IsS100.far ?_ NB170_171.out _) | exact HI170.out)) (by (with_reducible repeat (first | apply Kd.R_alloc | apply Kd.R_drewN | apply Kd.R_drew)); exact HO_172002.out) (by decide)) hk (fun _ h => h.2)) (fun _ h => h.1)); have n2_ := Aside0.mk (KeepBut.blk hk (g' := gb166) (o := .cells #[.bool x167000_1, .slice none 0 0, .slice none 0 0] 25 (0, 0)) (by (with_reducible repeat (first | refine blk_drewN ?_ _ | refine blk_drew ?_ | refine blk_alloc ?_ _)); exact BK166.out) NB166_170.out (by simp)); have n3_ := Aside0.mk (KeepBut.blk hk (g' := gb171) (o := .cells #[.bool x172000_1, u172001, u172002] 25 (0, 0)) (by (with_reducible repeat (first | refine blk_drewN ?_ _ | refine blk_drew ?_ | refine blk_alloc ?_ _)); exact BK171.out) NB171_170.out (by simp)); have n4_ := Aside0.mk (hb); have n5_ := Aside0.mk (hi); clear HO_172001; clear HO_172002; clear BK166; clear BK171; clear HB; clear HI170; have HO_172001 := n0_; have HO_172002 := n1_; have BK166 := n2_; have BK171 := n3_; have HB := n4_; have HI170 := n5_; clear n0_ n1_ n2_ n3_ n4_ n5_; (try clear hb); (try clear hb2); (try clear hk); (try clear hi)))
     go_meet
     case rel => exact ⟨_, ((t180 == 0)), (t181), (t182), (t183), (by first | rfl | (simp; done) | (simp [*]; done)), H', ⟨by have := HK1.out; first | omega | exact Nat.le_refl _⟩, ⟨by (with_reducible repeat (first | apply Kd.R_alloc | apply Kd.R_drewN | apply Kd.R_drew)); exact HO_172001.out⟩, ⟨by (with_reducible repeat (first | apply Kd.R_alloc | apply Kd.R_drewN | apply Kd.R_drew)); exact HO_172002.out⟩, ⟨by (with_reducible repeat (first | refine blk_drewN ?_ _ | refine blk_drew ?_ | refine blk_alloc ?_ _)); exact BK166.out⟩, ⟨by (with_reducible repeat (first | refine blk_drewN ?_ _ | refine blk_drew ?_ | refine blk_alloc ?_ _)); exact BK171.out⟩, ⟨by repeat (first | (with_reducible first | exact HI170.out | apply IsS100.alloc | apply IsS100.drewN | apply IsS100.drew | apply IsS100.set_0 | apply IsS100.set_1 | apply IsS100.set_2 | refine IsS100.far ?_ NB170_166.out _ | refine IsS100.far ?_ NB170_171.out _) | exact HI170.out)⟩, ⟨by repeat (first | (with_reducible first | exact HB.out | apply below_alloc | apply pw_below_drewN | apply below_drew1 | refine below_set ?_ (IsS100.ge HI170.out) | refine below_set ?_ GE166.out | refine below_set ?_ GE171.out) | exact HB.out)⟩⟩
    ·rw [if_neg c11] at H
     have c11b0 : decide (0 < x7_1) = false := decide_eq_false c11
     clear c11
     (first | rw [c11b0] | (simp only [i64_w, i32_w]; rw [c11b0]) | skip)
     have H' := Aside0.mk H
     clear H
     go_wp2
     go_meet
     case rel => exact ⟨_, (false), (x171000_1), (x171001_1), (x171002_1), (by first | rfl | (simp; done) | (simp [*]; done)), H', ⟨by have := HK1.out; first | omega | exact Nat.le_refl _⟩, ⟨by (with_reducible repeat (first | apply Kd.R_alloc | apply Kd.R_drewN | apply Kd.R_drew)); exact HO_172001.out⟩, ⟨by (with_reducible repeat (first | apply Kd.R_alloc | apply Kd.R_drewN | apply Kd.R_drew)); exact HO_172002.out⟩, ⟨by (with_reducible repeat (first | refine blk_drewN ?_ _ | refine blk_drew ?_ | refine blk_alloc ?_ _)); exact BK166.out⟩, ⟨by (with_reducible repeat (first | refine blk_drewN ?_ _ | refine blk_drew ?_ | refine blk_alloc ?_ _)); exact BK171.out⟩, ⟨by repeat (first | (with_reducible first | exact HI170.out | apply IsS100.alloc | apply IsS100.drewN | apply IsS100.drew | apply IsS100.set_0 | apply IsS100.set_1 | apply IsS100.set_2 | refine IsS100.far ?_ NB170_166.out _ | refine IsS100.far ?_ NB170_171.out _) | exact HI170.out)⟩, ⟨by repeat (first | (with_reducible first | exact HB.out | apply below_alloc | apply pw_below_drewN | apply below_drew1 | refine below_set ?_ (IsS100.ge HI170.out) | refine below_set ?_ GE166.out | refine below_set ?_ GE171.out) | exact HB.out)⟩⟩
   case rest =>
    clear HC10
    try clear c1
    try clear c2
    try clear p2
    try clear c3
    try clear c4
    try clear c11
    try clear c11b0
    try clear p2
    obtain ⟨kq, x20_9, x171000_9, x171001_9, x171002_9, rfl, HA, HJ9, HO_172001, HO_172002, BK166, BK171, HI170, HB⟩ := hcut
    cases kq with
    | zero => exact absurd HA.out (by simp [node_Decode.j1])
    | succ kj9 =>
     have H := HA.out
     clear HA
     simp only [node_Decode.j1] at H
     by_cases c14 : x20_9 = true
     ·subst c14
      have H1 : (if t172 = 1 then ((pack_Reader_Text.f kj9 x171000_9 x171001_9 x171002_9 272).bind fun bt184 => ((pack_Reader_Text.f kj9 bt184.2.1 bt184.2.2.1 bt184.2.2.2 160).bind fun bt188 => (if x172001_1.length < 4398046511104 then (node_Decode.l0 kj9 t172 (IntKind.u64.wrap (x7_1 - 1)) bt188.2.1 bt188.2.2.1 bt188.2.2.2 true (x172001_1 ++ [(⟨bt184.1, bt188.1⟩ : S44)]) x172002_1) else (none)))) else (if t172 = 2 then ((pack_Reader_Text.f kj9 x171000_9 x171001_9 x171002_9 272).bind fun bt195 => ((pack_Reader_Short.f bt195.2.1 bt195.2.2.1 bt195.2.2.2).bind fun bt199 => (if x172002_1.length < 5864062014805 then (node_Decode.l0 kj9 t172 (IntKind.u64.wrap (x7_1 - 1)) bt199.2.1 bt199.2.2.1 bt199.2.2.2 x172000_1 x172001_1 (x172002_1 ++ [(⟨bt195.1, wrap64 (mn bt199.1 4096)⟩ : S46)])) else (none)))) else (some (false, ([] : List (S44)), ([] : List (S46)), 60)))) = some (r1, r2, r3, r4) := by rw [if_pos rfl] at H; exact H
      clear H
      have H := H1
      clear H1
      by_cases c15 : t172 = 1
      ·rw [if_pos c15] at H
       have c15b0 : (t172 == 1) = true := beq_iff_eq.mpr c15
       have c15b1 : (t172 != 1) = false := bne_eq_false_iff_eq.mpr c15
       clear c15
       replace H := Option.bind_eq_some_iff.mp H
       obtain ⟨⟨t184, t185, t186, t187⟩, A160, H⟩ := H
       replace H : ((pack_Reader_Text.f kj9 t185 t186 t187 160).bind fun bt188 => (if x172001_1.length < 4398046511104 then (node_Decode.l0 kj9 t172 (IntKind.u64.wrap (x7_1 - 1)) bt188.2.1 bt188.2.2.1 bt188.2.2.2 true (x172001_1 ++ [(⟨t184, bt188.1⟩ : S44)]) x172002_1) else (none))) = some (r1, r2, r3, r4) := H
       have A16 := Aside0.mk A160
       clear A160
       replace H := Option.bind_eq_some_iff.mp H
       obtain ⟨⟨t188, t189, t190, t191⟩, A170, H⟩ := H
       replace H : (if x172001_1.length < 4398046511104 then (node_Decode.l0 kj9 t172 (IntKind.u64.wrap (x7_1 - 1)) t189 t190 t191 true (x172001_1 ++ [(⟨t184, t188⟩ : S44)]) x172002_1) else (none)) = some (r1, r2, r3, r4) := H
       have A17 := Aside0.mk A170
       clear A170
       by_cases c18 : x172001_1.length < 4398046511104
       ·rw [if_pos c18] at H
        have LMc18 := Aside0.mk c18
        clear c18
        obtain ⟨y192, hy192⟩ : ∃ y_ : List (S44), y_ = (x172001_1 ++ [(⟨t184, t188⟩ : S44)]) := ⟨_, rfl⟩
        replace H : (node_Decode.l0 kj9 t172 (IntKind.u64.wrap (x7_1 - 1)) t189 t190 t191 true y192 x172002_1) = some (r1, r2, r3, r4) := by first | (rw [hy192]; with_reducible exact H) | (have H2_ := (Option.bind_some _ _).symm.trans H; rw [hy192]; with_reducible exact H2_) | (have H2_ := (Option.bind_some _ _).symm.trans H; with_reducible exact H2_) | with_reducible exact H | (rw [hy192]; exact H) | exact H
        have Ny192 := Aside0.mk hy192
        clear hy192
        have H' := Aside0.mk H
        clear H
        have hnb19 := NB171_166.out
        have hnc19 := NB166_171.out
        have hnb20 := NB171_170.out
        have hnc20 := NB170_171.out
        have hcz21_0 : wc.cell? ⟨gb171, 0, none⟩ = some (.bool x172000_1) := (blk_cell BK171.out 0).trans rfl
        have hcz21_1 : wc.cell? ⟨gb171, 1, none⟩ = some (u172001) := (blk_cell BK171.out 1).trans rfl
        have hcz21_2 : wc.cell? ⟨gb171, 2, none⟩ = some (u172002) := (blk_cell BK171.out 2).trans rfl
        have hfz21_0 := blk_frozen BK171.out 0
        have hfz21_1 := blk_frozen BK171.out 1
        have hfz21_2 := blk_frozen BK171.out 2
        try go_wp2
        have n0_ : Aside0 (Kd.R k44 44 (wc.setCell ⟨gb171, 0, none⟩ (.bool true)) w.heap.size (fun _ => True) u172001 x172001_1) := ⟨by (with_reducible repeat (first | apply Kd.R_alloc | apply Kd.R_drewN | apply Kd.R_drew)); exact Kd.R_mono (Kd.R_far (p := ⟨gb171, 0, none⟩) (Kd.R_types HO_172001.out BK171.out (by decide)) (fun _ hk => hk.2) (.bool true)) (fun _ hk => trivial)⟩
        have n1_ : Aside0 (Kd.R k46 46 (wc.setCell ⟨gb171, 0, none⟩ (.bool true)) w.heap.size (fun _ => True) u172002 x172002_1) := ⟨by (with_reducible repeat (first | apply Kd.R_alloc | apply Kd.R_drewN | apply Kd.R_drew)); exact Kd.R_mono (Kd.R_far (p := ⟨gb171, 0, none⟩) (Kd.R_types HO_172002.out BK171.out (by decide)) (fun _ hk => hk.2) (.bool true)) (fun _ hk => trivial)⟩
        have n2_ : Aside0 ((wc.setCell ⟨gb171, 0, none⟩ (.bool true)).heap[gb166]? = some (.cells #[.bool x167000_1, .slice none 0 0, .slice none 0 0] 25 (0, 0))) := ⟨by (with_reducible repeat (first | refine blk_drewN ?_ _ | refine blk_drew ?_ | refine blk_alloc ?_ _)); refine blk_far ?_ NB166_171.out _; (with_reducible repeat (first | refine blk_drewN ?_ _ | refine blk_drew ?_ | refine blk_alloc ?_ _)); exact BK166.out⟩
        have n3_ : Aside0 ((wc.setCell ⟨gb171, 0, none⟩ (.bool true)).heap[gb171]? = some (.cells #[.bool true, u172001, u172002] 25 (0, 0))) := ⟨by (with_reducible repeat (first | refine blk_drewN ?_ _ | refine blk_drew ?_ | refine blk_alloc ?_ _)); refine blk_put (cs := #[.bool x172000_1, u172001, u172002]) ?_ 0 _ rfl; (with_reducible repeat (first | refine blk_drewN ?_ _ | refine blk_drew ?_ | refine blk_alloc ?_ _)); exact BK171.out⟩
        have n4_ : Aside0 (IsS100 w (wc.setCell ⟨gb171, 0, none⟩ (.bool true)) g170 x171000_9 x171001_9 x171002_9) := ⟨by repeat (first | (with_reducible first | exact HI170.out | apply IsS100.alloc | apply IsS100.drewN | apply IsS100.drew | apply IsS100.set_0 | apply IsS100.set_1 | apply IsS100.set_2 | refine IsS100.far ?_ NB170_166.out _ | refine IsS100.far ?_ NB170_171.out _) | exact HI170.out)⟩
        have n5_ : Aside0 (Below w.heap.size w (wc.setCell ⟨gb171, 0, none⟩ (.bool true))) := ⟨by repeat (first | (with_reducible first | exact HB.out | apply below_alloc | apply pw_below_drewN | apply below_drew1 | refine below_set ?_ (IsS100.ge HI170.out) | refine below_set ?_ GE166.out | refine below_set ?_ GE171.out) | exact HB.out)⟩
        (try clear HO_172001)
        (try clear HO_172002)
        (try clear BK166)
        (try clear BK171)
        (try clear HI170)
        (try clear HB)
        generalize (wc.setCell ⟨gb171, 0, none⟩ (.bool true)) = w22 at n0_ n1_ n2_ n3_ n4_ n5_ ⊢
        have HO_172001 := n0_
        have HO_172002 := n1_
        have BK166 := n2_
        have BK171 := n3_
        have HI170 := n4_
        have HB := n5_
        clear n0_ n1_ n2_ n3_ n4_ n5_
        have n0_ := Aside0.mk (Kd.R_drew HO_172001.out)
        have n1_ := Aside0.mk (Kd.R_drew HO_172002.out)
        have n2_ := Aside0.mk (blk_drew BK166.out)
        have n3_ := Aside0.mk (blk_drew BK171.out)
        have n4_ := Aside0.mk (IsS100.drew HI170.out)
        have n5_ := Aside0.mk (below_drew1 HB.out)
        clear HO_172001
        clear HO_172002
        clear BK166
        clear BK171
        clear HI170
        clear HB
        have HO_172001 := n0_
        have HO_172002 := n1_
        have BK166 := n2_
        have BK171 := n3_
        have HI170 := n4_
        have HB := n5_
        clear n0_ n1_ n2_ n3_ n4_ n5_
        refine start_ (n := 11) (S := fun w' => w'.cell? ⟨gb171, 0, none⟩ = some (.bool true) ∧ w'.cell? ⟨gb171, 1, none⟩ = some (u172001) ∧ w'.cell? ⟨gb171, 2, none⟩ = some (u172002)) (ds := [10]) #[false, false, false, false, false, false, false, false, false, false, false] (by kernel_rfl) rfl rfl ⟨(blk_cell BK171.out 0).trans rfl, (blk_cell BK171.out 1).trans rfl, (blk_cell BK171.out 2).trans rfl⟩ (fun hHeld => ?_); refine with_tabW node_Decode.tab11 node_Decode.bits11 (fun HT_ HW_ => ?_)
        generalize w22.drew = w23 at HO_172001 HO_172002 BK166 BK171 HI170 HB hHeld ⊢
        refine pure_ (i := 0) (N := some 29) (v := ?_) (a' := ?_) #[true, false, false, false, false, false, false, false, false, false, false] rfl rfl (any_of HT_.out (by kernel_rfl)) (fun _ _ _ h => h) (Or.inl ⟨by rfl, ?_⟩) ?_ ?_
        rotate_left
        ·intro w'
         go_simp
         with_reducible rfl
        rotate_left
        ·simp only [Act.put, List.setIfInBounds_toArray, List.set_cons_zero, List.set_cons_succ, i64_w, i32_w]
         rfl
        refine pure_ (i := 2) (N := some 31) (v := ?_) (a' := ?_) #[true, false, true, false, false, false, false, false, false, false, false] rfl rfl (any_of HT_.out (by kernel_rfl)) (fun _ _ _ h => h) (Or.inl ⟨by rfl, ?_⟩) ?_ ?_
        rotate_left
        ·intro w'
         go_simp
         with_reducible rfl
        rotate_left
        ·simp only [Act.put, List.setIfInBounds_toArray, List.set_cons_zero, List.set_cons_succ, i64_w, i32_w]
         rfl
        refine pure_ (i := 4) (N := some 33) (v := ?_) (a' := ?_) #[true, false, true, false, true, false, false, false, false, false, false] rfl rfl (any_of HT_.out (by kernel_rfl)) (fun _ _ _ h => h) (Or.inl ⟨by rfl, ?_⟩) ?_ ?_
        rotate_left
        ·intro w'
         go_simp
         with_reducible rfl
        rotate_left
        ·simp only [Act.put, List.setIfInBounds_toArray, List.set_cons_zero, List.set_cons_succ, i64_w, i32_w]
         rfl
        refine take_ (i := 1) (N := some 30) (v := ?_) (a' := ?_) #[true, true, true, false, true, false, false, false, false, false, false] rfl rfl (take_ofW HT_.out HW_.out (by kernel_rfl)) (fun _ _ _ h => h) (Or.inl ⟨by rfl, ?_⟩) hHeld ?_ ?_
        rotate_left
        ·rintro w' ⟨s0, s1, s2⟩
         go_simp
         with_reducible rfl
        rotate_left
        ·simp only [Act.put, List.setIfInBounds_toArray, List.set_cons_zero, List.set_cons_succ, i64_w, i32_w]
         rfl
        refine one_ (i := 3) (N := some 32) #[true, true, true, true, true, false, false, false, false, false, false] rfl rfl (one_of HT_.out (by kernel_rfl)) (by decide) (fun K hK => ?_)
        refine goes_ Try.func42 (by kernel_rfl) rfl #[.pointer (some ⟨g170, 0, none⟩), .int .i64 272] (by rfl) rfl rfl (by (try simp only [List.map_toArray, List.map_cons, List.map_nil]); first | done | rfl | (simp only [List.length_drop, List.length_take]; rfl)) ?_
        with_reducible refine (pack_Reader_Text.calls kj9 g170 x171000_9 x171001_9 x171002_9 272 t184 t185 t186 t187 w _ ?side1 ?side2 A16.out).mono ?_
        (case side1 => repeat (first | (with_reducible first | exact HI170.out | apply IsS100.alloc | apply IsS100.drewN | apply IsS100.drew | apply IsS100.set_0 | apply IsS100.set_1 | apply IsS100.set_2 | refine IsS100.far ?_ NB170_166.out _ | refine IsS100.far ?_ NB170_171.out _) | exact HI170.out))
        (case side2 => repeat (first | (with_reducible first | exact HB.out | apply below_alloc | apply pw_below_drewN | apply below_drew1 | refine below_set ?_ (IsS100.ge HI170.out) | refine below_set ?_ GE166.out | refine below_set ?_ GE171.out) | exact HB.out))
        rintro e w24 ⟨rfl, hi, hb, hk⟩
        refine ⟨_, rfl, ?_⟩
        have n0_ := Aside0.mk (Kd.R_mono (Kd.R_keep (IsS100.apart (show IsS100 w _ g170 x171000_9 x171001_9 x171002_9 from by repeat (first | (with_reducible first | exact HI170.out | apply IsS100.alloc | apply IsS100.drewN | apply IsS100.drew | apply IsS100.set_0 | apply IsS100.set_1 | apply IsS100.set_2 | refine IsS100.far ?_ NB170_166.out _ | refine IsS100.far ?_ NB170_171.out _) | exact HI170.out)) (by (with_reducible repeat (first | apply Kd.R_alloc | apply Kd.R_drewN | apply Kd.R_drew)); exact HO_172001.out) (by decide)) hk (fun _ h => h.2)) (fun _ h => h.1))
        have n1_ := Aside0.mk (Kd.R_mono (Kd.R_keep (IsS100.apart (show IsS100 w _ g170 x171000_9 x171001_9 x171002_9 from by repeat (first | (with_reducible first | exact HI170.out | apply IsS100.alloc | apply IsS100.drewN | apply IsS100.drew | apply IsS100.set_0 | apply IsS100.set_1 | apply IsS100.set_2 | refine IsS100.far ?_ NB170_166.out _ | refine IsS100.far ?_ NB170_171.out _) | exact HI170.out)) (by (with_reducible repeat (first | apply Kd.R_alloc | apply Kd.R_drewN | apply Kd.R_drew)); exact HO_172002.out) (by decide)) hk (fun _ h => h.2)) (fun _ h => h.1))
        have n2_ := Aside0.mk (KeepBut.blk hk (g' := gb166) (o := .cells #[.bool x167000_1, .slice none 0 0, .slice none 0 0] 25 (0, 0)) (by (with_reducible repeat (first | refine blk_drewN ?_ _ | refine blk_drew ?_ | refine blk_alloc ?_ _)); exact BK166.out) NB166_170.out (by simp))
        have n3_ := Aside0.mk (KeepBut.blk hk (g' := gb171) (o := .cells #[.bool true, u172001, u172002] 25 (0, 0)) (by (with_reducible repeat (first | refine blk_drewN ?_ _ | refine blk_drew ?_ | refine blk_alloc ?_ _)); exact BK171.out) NB171_170.out (by simp))
        have n4_ := Aside0.mk (hb)
        have n5_ := Aside0.mk (hi)
        clear HO_172001
        clear HO_172002
        clear BK166
        clear BK171
        clear HB
        clear HI170
        have HO_172001 := n0_
        have HO_172002 := n1_
        have BK166 := n2_
        have BK171 := n3_
        have HB := n4_
        have HI170 := n5_
        clear n0_ n1_ n2_ n3_ n4_ n5_
        (try clear hb)
        (try clear hb2)
        (try clear hk)
        (try clear hi)
        refine hK.out _ _ ⟨(blk_cell BK171.out 0).trans rfl, (blk_cell BK171.out 1).trans rfl, (blk_cell BK171.out 2).trans rfl⟩ (fun hHeld => ?_)
        clear hK K
        refine norm_ (a' := ?_) ?_ ?_
        rotate_left
        ·show Act.put _ (some 32) _ = _
         simp only [Act.put, List.setIfInBounds_toArray, List.set_cons_zero, List.set_cons_succ, i64_w, i32_w]
         rfl
        refine one_ (i := 5) (N := some 34) #[true, true, true, true, true, true, false, false, false, false, false] rfl rfl (one_of HT_.out (by kernel_rfl)) (by decide) (fun K hK => ?_)
        refine goes_ Try.func42 (by kernel_rfl) rfl #[.pointer (some ⟨g170, 0, none⟩), .int .i64 160] (by rfl) rfl rfl (by (try simp only [List.map_toArray, List.map_cons, List.map_nil]); first | done | rfl | (simp only [List.length_drop, List.length_take]; rfl)) ?_
        with_reducible refine (pack_Reader_Text.calls kj9 g170 t185 t186 t187 160 t188 t189 t190 t191 w _ ?side1 ?side2 A17.out).mono ?_
        (case side1 => repeat (first | (with_reducible first | exact HI170.out | apply IsS100.alloc | apply IsS100.drewN | apply IsS100.drew | apply IsS100.set_0 | apply IsS100.set_1 | apply IsS100.set_2 | refine IsS100.far ?_ NB170_166.out _ | refine IsS100.far ?_ NB170_171.out _) | exact HI170.out))
        (case side2 => repeat (first | (with_reducible first | exact HB.out | apply below_alloc | apply pw_below_drewN | apply below_drew1 | refine below_set ?_ (IsS100.ge HI170.out) | refine below_set ?_ GE166.out | refine below_set ?_ GE171.out) | exact HB.out))
        rintro e w25 ⟨rfl, hi, hb, hk⟩
        refine ⟨_, rfl, ?_⟩
        have n0_ := Aside0.mk (Kd.R_mono (Kd.R_keep (IsS100.apart (show IsS100 w _ g170 t185 t186 t187 from by repeat (first | (with_reducible first | exact HI170.out | apply IsS100.alloc | apply IsS100.drewN | apply IsS100.drew | apply IsS100.set_0 | apply IsS100.set_1 | apply IsS100.set_2 | refine IsS100.far ?_ NB170_166.out _ | refine IsS100.far ?_ NB170_171.out _) | exact HI170.out)) (by (with_reducible repeat (first | apply Kd.R_alloc | apply Kd.R_drewN | apply Kd.R_drew)); exact HO_172001.out) (by decide)) hk (fun _ h => h.2)) (fun _ h => h.1))
        have n1_ := Aside0.mk (Kd.R_mono (Kd.R_keep (IsS100.apart (show IsS100 w _ g170 t185 t186 t187 from by repeat (first | (with_reducible first | exact HI170.out | apply IsS100.alloc | apply IsS100.drewN | apply IsS100.drew | apply IsS100.set_0 | apply IsS100.set_1 | apply IsS100.set_2 | refine IsS100.far ?_ NB170_166.out _ | refine IsS100.far ?_ NB170_171.out _) | exact HI170.out)) (by (with_reducible repeat (first | apply Kd.R_alloc | apply Kd.R_drewN | apply Kd.R_drew)); exact HO_172002.out) (by decide)) hk (fun _ h => h.2)) (fun _ h => h.1))
        have n2_ := Aside0.mk (KeepBut.blk hk (g' := gb166) (o := .cells #[.bool x167000_1, .slice none 0 0, .slice none 0 0] 25 (0, 0)) (by (with_reducible repeat (first | refine blk_drewN ?_ _ | refine blk_drew ?_ | refine blk_alloc ?_ _)); exact BK166.out) NB166_170.out (by simp))
        have n3_ := Aside0.mk (KeepBut.blk hk (g' := gb171) (o := .cells #[.bool true, u172001, u172002] 25 (0, 0)) (by (with_reducible repeat (first | refine blk_drewN ?_ _ | refine blk_drew ?_ | refine blk_alloc ?_ _)); exact BK171.out) NB171_170.out (by simp))
        have n4_ := Aside0.mk (hb)
        have n5_ := Aside0.mk (hi)
        clear HO_172001
        clear HO_172002
        clear BK166
        clear BK171
        clear HB
        clear HI170
        have HO_172001 := n0_
        have HO_172002 := n1_
        have BK166 := n2_
        have BK171 := n3_
        have HB := n4_
        have HI170 := n5_
        clear n0_ n1_ n2_ n3_ n4_ n5_
        (try clear hb)
        (try clear hb2)
        (try clear hk)
        (try clear hi)
        refine hK.out _ _ ⟨(blk_cell BK171.out 0).trans rfl, (blk_cell BK171.out 1).trans rfl, (blk_cell BK171.out 2).trans rfl⟩ (fun hHeld => ?_)
        clear hK K
        refine norm_ (a' := ?_) ?_ ?_
        rotate_left
        ·show Act.put _ (some 34) _ = _
         simp only [Act.put, List.setIfInBounds_toArray, List.set_cons_zero, List.set_cons_succ, i64_w, i32_w]
         rfl
        refine pure_ (i := 6) (N := some 35) (v := ?_) (a' := ?_) #[true, true, true, true, true, true, true, false, false, false, false] rfl rfl (any_of HT_.out (by kernel_rfl)) (fun _ _ _ h => h) (Or.inl ⟨by rfl, ?_⟩) ?_ ?_
        rotate_left
        ·intro w'
         go_simp
         with_reducible rfl
        rotate_left
        ·simp only [Act.put, List.setIfInBounds_toArray, List.set_cons_zero, List.set_cons_succ, i64_w, i32_w]
         rfl
        refine one_ (i := 7) (N := some 36) #[true, true, true, true, true, true, true, true, false, false, false] rfl rfl (one_of HT_.out (by kernel_rfl)) (by decide) (fun K hK => ?_)
        refine value_ (w1 := ?_) (v := ?_) (by rfl) rfl ?_ ?_
        rotate_left 2
        ·go_simp
         constructor
         ·rfl
         ·rfl
        refine hK.out _ _ ⟨(blk_cell (blk_alloc BK171.out _) 0).trans rfl, (blk_cell (blk_alloc BK171.out _) 1).trans rfl, (blk_cell (blk_alloc BK171.out _) 2).trans rfl⟩ (fun hHeld => ?_)
        clear hK K
        refine norm_ (a' := ?_) ?_ ?_
        rotate_left
        ·show Act.put _ (some 36) _ = _
         simp only [Act.put, List.setIfInBounds_toArray, List.set_cons_zero, List.set_cons_succ, i64_w, i32_w]
         rfl
        refine one_ (i := 8) (N := some 37) #[true, true, true, true, true, true, true, true, true, false, false] rfl rfl (one_of HT_.out (by kernel_rfl)) (by decide) (fun K hK => ?_)
        refine Kd.R_append_step k44 (w0 := w) w.heap.size (by rfl) (.tmp 30) (.tmp 36) 22 44 (.agg #[(.string ⟨#[]⟩), (.string ⟨#[]⟩)]) 32 rfl Try.underlying22 info44 rfl (by decide) (by omega) u172001 x172001_1 (⟨t184, t188⟩ : S44) [.string t184, .string t188] (fun _ => True) (fun _ => False) rfl rfl ?aP (fun _ hk => hk.elim) ?aF ?aO ?aB ?aS ?aL ?_
        (case aP => exact k44_mkM _ _ _ (⟨t184, t188⟩ : S44))
        (case aB => exact (by repeat (first | (with_reducible first | exact HB.out | apply below_alloc | apply pw_below_drewN | apply below_drew1 | refine below_set ?_ (IsS100.ge HI170.out) | refine below_set ?_ GE166.out | refine below_set ?_ GE171.out) | exact HB.out)))
        (case aF => exact (fun _ _ => trivial))
        (case aO => exact (by (with_reducible repeat (first | apply Kd.R_alloc | apply Kd.R_drewN | apply Kd.R_drew)); exact HO_172001.out))
        (case aS => exact (below_size (by repeat (first | (with_reducible first | exact HB.out | apply below_alloc | apply pw_below_drewN | apply below_drew1 | refine below_set ?_ (IsS100.ge HI170.out) | refine below_set ?_ GE166.out | refine below_set ?_ GE171.out) | exact HB.out))))
        (case aL => have := LMc18.out; omega)
        intro v193 w26 ho hb hg hat
        rw [← Ny192.out] at ho
        have n0_ := Aside0.mk (Kd.R_over' (by (with_reducible repeat (first | apply Kd.R_alloc | apply Kd.R_drewN | apply Kd.R_drew)); exact HO_172002.out) (Kd.R_typed (by (with_reducible repeat (first | apply Kd.R_alloc | apply Kd.R_drewN | apply Kd.R_drew)); exact HO_172001.out)) (by decide) hg)
        have n1_ := Aside0.mk (blk_grown (g := gb166) (o := .cells #[.bool x167000_1, .slice none 0 0, .slice none 0 0] 25 (0, 0)) (by (with_reducible repeat (first | refine blk_drewN ?_ _ | refine blk_drew ?_ | refine blk_alloc ?_ _)); exact BK166.out) hg (Kd.R_ne HO_172001.out BK166.out (by decide)))
        have n2_ := Aside0.mk (blk_grown (g := gb171) (o := .cells #[.bool true, u172001, u172002] 25 (0, 0)) (by (with_reducible repeat (first | refine blk_drewN ?_ _ | refine blk_drew ?_ | refine blk_alloc ?_ _)); exact BK171.out) hg (Kd.R_ne HO_172001.out BK171.out (by decide)))
        have n3_ := Aside0.mk (IsS100.grown (by repeat (first | (with_reducible first | exact HI170.out | apply IsS100.alloc | apply IsS100.drewN | apply IsS100.drew | apply IsS100.set_0 | apply IsS100.set_1 | apply IsS100.set_2 | refine IsS100.far ?_ NB170_166.out _ | refine IsS100.far ?_ NB170_171.out _) | exact HI170.out)) hg (IsS100.own_ne HI170.out HO_172001.out (by decide)))
        have n4_ := Aside0.mk (hb)
        have n5_ := Aside0.mk (ho)
        clear HO_172002
        clear BK166
        clear BK171
        clear HI170
        clear HB
        clear HO_172001
        have HO_172002 := n0_
        have BK166 := n1_
        have BK171 := n2_
        have HI170 := n3_
        have HB := n4_
        have HO194 := n5_
        clear n0_ n1_ n2_ n3_ n4_ n5_
        clear ho hb hg hat
        obtain ⟨Ao27, co27, eo27⟩ := Kd.R_slice HO194.out
        (first | subst eo27 | (injection eo27 with f1_ f2_ f3_; have f4_ := f1_.symm; have f5_ := f3_.symm; clear f1_ f2_ f3_; subst f4_; subst f5_))
        refine hK.out _ _ ⟨(blk_cell BK171.out 0).trans rfl, (blk_cell BK171.out 1).trans rfl, (blk_cell BK171.out 2).trans rfl⟩ (fun hHeld => ?_)
        clear hK K
        refine norm_ (a' := ?_) ?_ ?_
        rotate_left
        ·show Act.put _ (some 37) _ = _
         simp only [Act.put, List.setIfInBounds_toArray, List.set_cons_zero, List.set_cons_succ, i64_w, i32_w]
         rfl
        refine pure_ (i := 9) (N := some 38) (v := ?_) (a' := ?_) #[true, true, true, true, true, true, true, true, true, true, false] rfl rfl (any_of HT_.out (by kernel_rfl)) (fun _ _ _ h => h) (Or.inl ⟨by rfl, ?_⟩) ?_ ?_
        rotate_left
        ·intro w'
         go_simp
         with_reducible rfl
        rotate_left
        ·simp only [Act.put, List.setIfInBounds_toArray, List.set_cons_zero, List.set_cons_succ, i64_w, i32_w]
         rfl
        refine last_ (i := 10) (N := none) #[true, true, true, true, true, true, true, true, true, true, true] rfl rfl (one_of HT_.out (by kernel_rfl)) (by decide) (fun K hK => ?_)
        have hs28 : w26.cell? ⟨gb171, 1, none⟩ = some (u172001) := (blk_cell BK171.out 1).trans rfl
        have hfs28 := blk_frozen BK171.out 1
        have hns28_0 := NB166_171.out
        have hms28_0 := NB171_166.out
        refine skip_ (w1 := ?_) (by rfl) rfl ?_ ?_
        rotate_left
        ·go_simp
         rfl
        refine hK.out _ _ ?_
        clear hK K
        refine done_ (done_of HT_.out (by kernel_rfl)) ?_
        try go_wp2
        go_roundg kj9
        case measure => have := HK1.out; have := HJ9.out; omega
        case rel => exact ⟨(IntKind.u64.wrap (x7_1 - 1)), (x167000_1), (t189), (t190), (t191), (true), (y192), (x172002_1), (.slice Ao27 y192.length co27), (u172002), (by first | rfl | (simp; done) | (simp [*]; done)), H', ⟨by have := HK1.out; have := HJ9.out; omega⟩, ⟨by (with_reducible repeat (first | apply Kd.R_alloc | apply Kd.R_drewN | apply Kd.R_drew)); exact Kd.R_mono (Kd.R_far (p := ⟨gb171, 1, none⟩) (Kd.R_types HO194.out BK171.out (by decide)) (fun _ hk => hk.2) (.slice Ao27 y192.length co27)) (fun _ hk => trivial)⟩, ⟨by (with_reducible repeat (first | apply Kd.R_alloc | apply Kd.R_drewN | apply Kd.R_drew)); exact Kd.R_mono (Kd.R_far (p := ⟨gb171, 1, none⟩) (Kd.R_types HO_172002.out BK171.out (by decide)) (fun _ hk => hk.2) (.slice Ao27 y192.length co27)) (fun _ hk => trivial)⟩, ⟨by (with_reducible repeat (first | refine blk_drewN ?_ _ | refine blk_drew ?_ | refine blk_alloc ?_ _)); refine blk_far ?_ NB166_171.out _; (with_reducible repeat (first | refine blk_drewN ?_ _ | refine blk_drew ?_ | refine blk_alloc ?_ _)); exact BK166.out⟩, ⟨by (with_reducible repeat (first | refine blk_drewN ?_ _ | refine blk_drew ?_ | refine blk_alloc ?_ _)); refine blk_put (cs := #[.bool true, u172001, u172002]) ?_ 1 _ rfl; (with_reducible repeat (first | refine blk_drewN ?_ _ | refine blk_drew ?_ | refine blk_alloc ?_ _)); exact BK171.out⟩, ⟨by repeat (first | (with_reducible first | exact HI170.out | apply IsS100.alloc | apply IsS100.drewN | apply IsS100.drew | apply IsS100.set_0 | apply IsS100.set_1 | apply IsS100.set_2 | refine IsS100.far ?_ NB170_166.out _ | refine IsS100.far ?_ NB170_171.out _) | exact HI170.out)⟩, ⟨by repeat (first | (with_reducible first | exact HB.out | apply below_alloc | apply pw_below_drewN | apply below_drew1 | refine below_set ?_ (IsS100.ge HI170.out) | refine below_set ?_ GE166.out | refine below_set ?_ GE171.out) | exact HB.out)⟩⟩
       ·rw [if_neg c18] at H
        exact absurd H (by simp)
      ·rw [if_neg c15] at H
       have c15b0 : (t172 == 1) = false := beq_eq_false_iff_ne.mpr c15
       have c15b1 : (t172 != 1) = true := bne_iff_ne.mpr c15
       by_cases c29 : t172 = 2
       ·rw [if_pos c29] at H
        have c29b0 : (t172 == 2) = true := beq_iff_eq.mpr c29
        have c29b1 : (t172 != 2) = false := bne_eq_false_iff_eq.mpr c29
        clear c29
        replace H := Option.bind_eq_some_iff.mp H
        obtain ⟨⟨t195, t196, t197, t198⟩, A300, H⟩ := H
        replace H : ((pack_Reader_Short.f t196 t197 t198).bind fun bt199 => (if x172002_1.length < 5864062014805 then (node_Decode.l0 kj9 t172 (IntKind.u64.wrap (x7_1 - 1)) bt199.2.1 bt199.2.2.1 bt199.2.2.2 x172000_1 x172001_1 (x172002_1 ++ [(⟨t195, wrap64 (mn bt199.1 4096)⟩ : S46)])) else (none))) = some (r1, r2, r3, r4) := H
        have A30 := Aside0.mk A300
        clear A300
        replace H := Option.bind_eq_some_iff.mp H
        obtain ⟨⟨t199, t200, t201, t202⟩, A310, H⟩ := H
        replace H : (if x172002_1.length < 5864062014805 then (node_Decode.l0 kj9 t172 (IntKind.u64.wrap (x7_1 - 1)) t200 t201 t202 x172000_1 x172001_1 (x172002_1 ++ [(⟨t195, wrap64 (mn t199 4096)⟩ : S46)])) else (none)) = some (r1, r2, r3, r4) := H
        have A31 := Aside0.mk A310
        clear A310
        obtain ⟨ji32, hji32⟩ : ∃ j_ : Int, (mn t199 4096) = j_ := ⟨_, rfl⟩
        replace H : (if x172002_1.length < 5864062014805 then (node_Decode.l0 kj9 t172 (IntKind.u64.wrap (x7_1 - 1)) t200 t201 t202 x172000_1 x172001_1 (x172002_1 ++ [(⟨t195, wrap64 (ji32)⟩ : S46)])) else (none)) = some (r1, r2, r3, r4) := by first | (rw [hji32] at H; exact H) | (simp only [hji32] at H ⊢; exact H)
        (try rw [hji32] at A30)
        (try rw [hji32] at A31)
        (try (have hji32h : ji32 ≤ 4096 := by (rw [← hji32]; unfold mn; (repeat' split) <;> omega)))
        (try (have hji32g : ji32 ≤ 64 := by omega))
        have hji32_ : (if 4096 < t199 then 4096 else t199) = ji32 := hji32
        by_cases c33 : x172002_1.length < 5864062014805
        ·rw [if_pos c33] at H
         have LMc33 := Aside0.mk c33
         clear c33
         obtain ⟨y203, hy203⟩ : ∃ y_ : List (S46), y_ = (x172002_1 ++ [(⟨t195, wrap64 (ji32)⟩ : S46)]) := ⟨_, rfl⟩
         replace H : (node_Decode.l0 kj9 t172 (IntKind.u64.wrap (x7_1 - 1)) t200 t201 t202 x172000_1 x172001_1 y203) = some (r1, r2, r3, r4) := by first | (rw [hy203]; with_reducible exact H) | (have H2_ := (Option.bind_some _ _).symm.trans H; rw [hy203]; with_reducible exact H2_) | (have H2_ := (Option.bind_some _ _).symm.trans H; with_reducible exact H2_) | with_reducible exact H | (rw [hy203]; exact H) | exact H
         have Ny203 := Aside0.mk hy203
         clear hy203
         have H' := Aside0.mk H
         clear H
         try go_wp2
         have n0_ := Aside0.mk (Kd.R_drew HO_172001.out)
         have n1_ := Aside0.mk (Kd.R_drew HO_172002.out)
         have n2_ := Aside0.mk (blk_drew BK166.out)
         have n3_ := Aside0.mk (blk_drew BK171.out)
         have n4_ := Aside0.mk (IsS100.drew HI170.out)
         have n5_ := Aside0.mk (below_drew1 HB.out)
         clear HO_172001
         clear HO_172002
         clear BK166
         clear BK171
         clear HI170
         clear HB
         have HO_172001 := n0_
         have HO_172002 := n1_
         have BK166 := n2_
         have BK171 := n3_
         have HI170 := n4_
         have HB := n5_
         clear n0_ n1_ n2_ n3_ n4_ n5_
         refine start_ (n := 13) (S := fun w' => w'.cell? ⟨gb171, 0, none⟩ = some (.bool x172000_1) ∧ w'.cell? ⟨gb171, 1, none⟩ = some (u172001) ∧ w'.cell? ⟨gb171, 2, none⟩ = some (u172002)) (ds := [12]) #[false, false, false, false, false, false, false, false, false, false, false, false, false] (by kernel_rfl) rfl rfl ⟨(blk_cell BK171.out 0).trans rfl, (blk_cell BK171.out 1).trans rfl, (blk_cell BK171.out 2).trans rfl⟩ (fun hHeld => ?_); refine with_tabW node_Decode.tab13 node_Decode.bits13 (fun HT_ HW_ => ?_)
         generalize wc.drew = w34 at HO_172001 HO_172002 BK166 BK171 HI170 HB hHeld ⊢
         refine pure_ (i := 0) (N := some 42) (v := ?_) (a' := ?_) #[true, false, false, false, false, false, false, false, false, false, false, false, false] rfl rfl (any_of HT_.out (by kernel_rfl)) (fun _ _ _ h => h) (Or.inl ⟨by rfl, ?_⟩) ?_ ?_
         rotate_left
         ·intro w'
          go_simp
          with_reducible rfl
         rotate_left
         ·simp only [Act.put, List.setIfInBounds_toArray, List.set_cons_zero, List.set_cons_succ, i64_w, i32_w]
          rfl
         refine pure_ (i := 2) (N := some 44) (v := ?_) (a' := ?_) #[true, false, true, false, false, false, false, false, false, false, false, false, false] rfl rfl (any_of HT_.out (by kernel_rfl)) (fun _ _ _ h => h) (Or.inl ⟨by rfl, ?_⟩) ?_ ?_
         rotate_left
         ·intro w'
          go_simp
          with_reducible rfl
         rotate_left
         ·simp only [Act.put, List.setIfInBounds_toArray, List.set_cons_zero, List.set_cons_succ, i64_w, i32_w]
          rfl
         refine pure_ (i := 4) (N := some 46) (v := ?_) (a' := ?_) #[true, false, true, false, true, false, false, false, false, false, false, false, false] rfl rfl (any_of HT_.out (by kernel_rfl)) (fun _ _ _ h => h) (Or.inl ⟨by rfl, ?_⟩) ?_ ?_
         rotate_left
         ·intro w'
          go_simp
          with_reducible rfl
         rotate_left
         ·simp only [Act.put, List.setIfInBounds_toArray, List.set_cons_zero, List.set_cons_succ, i64_w, i32_w]
          rfl
         refine take_ (i := 1) (N := some 43) (v := ?_) (a' := ?_) #[true, true, true, false, true, false, false, false, false, false, false, false, false] rfl rfl (take_ofW HT_.out HW_.out (by kernel_rfl)) (fun _ _ _ h => h) (Or.inl ⟨by rfl, ?_⟩) hHeld ?_ ?_
         rotate_left
         ·rintro w' ⟨s0, s1, s2⟩
          go_simp
          with_reducible rfl
         rotate_left
         ·simp only [Act.put, List.setIfInBounds_toArray, List.set_cons_zero, List.set_cons_succ, i64_w, i32_w]
          rfl
         refine one_ (i := 3) (N := some 45) #[true, true, true, true, true, false, false, false, false, false, false, false, false] rfl rfl (one_of HT_.out (by kernel_rfl)) (by decide) (fun K hK => ?_)
         refine goes_ Try.func42 (by kernel_rfl) rfl #[.pointer (some ⟨g170, 0, none⟩), .int .i64 272] (by rfl) rfl rfl (by (try simp only [List.map_toArray, List.map_cons, List.map_nil]); first | done | rfl | (simp only [List.length_drop, List.length_take]; rfl)) ?_
         with_reducible refine (pack_Reader_Text.calls kj9 g170 x171000_9 x171001_9 x171002_9 272 t195 t196 t197 t198 w _ ?side1 ?side2 A30.out).mono ?_
         (case side1 => repeat (first | (with_reducible first | exact HI170.out | apply IsS100.alloc | apply IsS100.drewN | apply IsS100.drew | apply IsS100.set_0 | apply IsS100.set_1 | apply IsS100.set_2 | refine IsS100.far ?_ NB170_166.out _ | refine IsS100.far ?_ NB170_171.out _) | exact HI170.out))
         (case side2 => repeat (first | (with_reducible first | exact HB.out | apply below_alloc | apply pw_below_drewN | apply below_drew1 | refine below_set ?_ (IsS100.ge HI170.out) | refine below_set ?_ GE166.out | refine below_set ?_ GE171.out) | exact HB.out))
         rintro e w35 ⟨rfl, hi, hb, hk⟩
         refine ⟨_, rfl, ?_⟩
         have n0_ := Aside0.mk (Kd.R_mono (Kd.R_keep (IsS100.apart (show IsS100 w _ g170 x171000_9 x171001_9 x171002_9 from by repeat (first | (with_reducible first | exact HI170.out | apply IsS100.alloc | apply IsS100.drewN | apply IsS100.drew | apply IsS100.set_0 | apply IsS100.set_1 | apply IsS100.set_2 | refine IsS100.far ?_ NB170_166.out _ | refine IsS100.far ?_ NB170_171.out _) | exact HI170.out)) (by (with_reducible repeat (first | apply Kd.R_alloc | apply Kd.R_drewN | apply Kd.R_drew)); exact HO_172001.out) (by decide)) hk (fun _ h => h.2)) (fun _ h => h.1))
         have n1_ := Aside0.mk (Kd.R_mono (Kd.R_keep (IsS100.apart (show IsS100 w _ g170 x171000_9 x171001_9 x171002_9 from by repeat (first | (with_reducible first | exact HI170.out | apply IsS100.alloc | apply IsS100.drewN | apply IsS100.drew | apply IsS100.set_0 | apply IsS100.set_1 | apply IsS100.set_2 | refine IsS100.far ?_ NB170_166.out _ | refine IsS100.far ?_ NB170_171.out _) | exact HI170.out)) (by (with_reducible repeat (first | apply Kd.R_alloc | apply Kd.R_drewN | apply Kd.R_drew)); exact HO_172002.out) (by decide)) hk (fun _ h => h.2)) (fun _ h => h.1))
         have n2_ := Aside0.mk (KeepBut.blk hk (g' := gb166) (o := .cells #[.bool x167000_1, .slice none 0 0, .slice none 0 0] 25 (0, 0)) (by (with_reducible repeat (first | refine blk_drewN ?_ _ | refine blk_drew ?_ | refine blk_alloc ?_ _)); exact BK166.out) NB166_170.out (by simp))
         have n3_ := Aside0.mk (KeepBut.blk hk (g' := gb171) (o := .cells #[.bool x172000_1, u172001, u172002] 25 (0, 0)) (by (with_reducible repeat (first | refine blk_drewN ?_ _ | refine blk_drew ?_ | refine blk_alloc ?_ _)); exact BK171.out) NB171_170.out (by simp))
         have n4_ := Aside0.mk (hb)
         have n5_ := Aside0.mk (hi)
         clear HO_172001
         clear HO_172002
         clear BK166
         clear BK171
         clear HB
         clear HI170
         have HO_172001 := n0_
         have HO_172002 := n1_
         have BK166 := n2_
         have BK171 := n3_
         have HB := n4_
         have HI170 := n5_
         clear n0_ n1_ n2_ n3_ n4_ n5_
         (try clear hb)
         (try clear hb2)
         (try clear hk)
         (try clear hi)
         refine hK.out _ _ ⟨(blk_cell BK171.out 0).trans rfl, (blk_cell BK171.out 1).trans rfl, (blk_cell BK171.out 2).trans rfl⟩ (fun hHeld => ?_)
         clear hK K
         refine norm_ (a' := ?_) ?_ ?_
         rotate_left
         ·show Act.put _ (some 45) _ = _
          simp only [Act.put, List.setIfInBounds_toArray, List.set_cons_zero, List.set_cons_succ, i64_w, i32_w]
          rfl
         refine one_ (i := 5) (N := some 47) #[true, true, true, true, true, true, false, false, false, false, false, false, false] rfl rfl (one_of HT_.out (by kernel_rfl)) (by decide) (fun K hK => ?_)
         refine goes_ Try.func40 (by kernel_rfl) rfl #[.pointer (some ⟨g170, 0, none⟩)] (by rfl) rfl rfl (by (try simp only [List.map_toArray, List.map_cons, List.map_nil]); first | done | rfl | (simp only [List.length_drop, List.length_take]; rfl)) ?_
         with_reducible refine (pack_Reader_Short.calls g170 t196 t197 t198 t199 t200 t201 t202 w _ ?side1 ?side2 A31.out).mono ?_
         (case side1 => repeat (first | (with_reducible first | exact HI170.out | apply IsS100.alloc | apply IsS100.drewN | apply IsS100.drew | apply IsS100.set_0 | apply IsS100.set_1 | apply IsS100.set_2 | refine IsS100.far ?_ NB170_166.out _ | refine IsS100.far ?_ NB170_171.out _) | exact HI170.out))
         (case side2 => repeat (first | (with_reducible first | exact HB.out | apply below_alloc | apply pw_below_drewN | apply below_drew1 | refine below_set ?_ (IsS100.ge HI170.out) | refine below_set ?_ GE166.out | refine below_set ?_ GE171.out) | exact HB.out))
         rintro e w36 ⟨rfl, hi, hb, hk⟩
         refine ⟨_, rfl, ?_⟩
         have n0_ := Aside0.mk (Kd.R_mono (Kd.R_keep (IsS100.apart (show IsS100 w _ g170 t196 t197 t198 from by repeat (first | (with_reducible first | exact HI170.out | apply IsS100.alloc | apply IsS100.drewN | apply IsS100.drew | apply IsS100.set_0 | apply IsS100.set_1 | apply IsS100.set_2 | refine IsS100.far ?_ NB170_166.out _ | refine IsS100.far ?_ NB170_171.out _) | exact HI170.out)) (by (with_reducible repeat (first | apply Kd.R_alloc | apply Kd.R_drewN | apply Kd.R_drew)); exact HO_172001.out) (by decide)) hk (fun _ h => h.2)) (fun _ h => h.1))
         have n1_ := Aside0.mk (Kd.R_mono (Kd.R_keep (IsS100.apart (show IsS100 w _ g170 t196 t197 t198 from by repeat (first | (with_reducible first | exact HI170.out | apply IsS100.alloc | apply IsS100.drewN | apply IsS100.drew | apply IsS100.set_0 | apply IsS100.set_1 | apply IsS100.set_2 | refine IsS100.far ?_ NB170_166.out _ | refine IsS100.far ?_ NB170_171.out _) | exact HI170.out)) (by (with_reducible repeat (first | apply Kd.R_alloc | apply Kd.R_drewN | apply Kd.R_drew)); exact HO_172002.out) (by decide)) hk (fun _ h => h.2)) (fun _ h => h.1))
         have n2_ := Aside0.mk (KeepBut.blk hk (g' := gb166) (o := .cells #[.bool x167000_1, .slice none 0 0, .slice none 0 0] 25 (0, 0)) (by (with_reducible repeat (first | refine blk_drewN ?_ _ | refine blk_drew ?_ | refine blk_alloc ?_ _)); exact BK166.out) NB166_170.out (by simp))
         have n3_ := Aside0.mk (KeepBut.blk hk (g' := gb171) (o := .cells #[.bool x172000_1, u172001, u172002] 25 (0, 0)) (by (with_reducible repeat (first | refine blk_drewN ?_ _ | refine blk_drew ?_ | refine blk_alloc ?_ _)); exact BK171.out) NB171_170.out (by simp))
         have n4_ := Aside0.mk (hb)
         have n5_ := Aside0.mk (hi)
         clear HO_172001
         clear HO_172002
         clear BK166
         clear BK171
         clear HB
         clear HI170
         have HO_172001 := n0_
         have HO_172002 := n1_
         have BK166 := n2_
         have BK171 := n3_
         have HB := n4_
         have HI170 := n5_
         clear n0_ n1_ n2_ n3_ n4_ n5_
         (try clear hb)
         (try clear hb2)
         (try clear hk)
         (try clear hi)
         refine hK.out _ _ ⟨(blk_cell BK171.out 0).trans rfl, (blk_cell BK171.out 1).trans rfl, (blk_cell BK171.out 2).trans rfl⟩ (fun hHeld => ?_)
         clear hK K
         refine norm_ (a' := ?_) ?_ ?_
         rotate_left
         ·show Act.put _ (some 47) _ = _
          simp only [Act.put, List.setIfInBounds_toArray, List.set_cons_zero, List.set_cons_succ, i64_w, i32_w]
          rfl
         refine pure_ (i := 6) (N := some 48) (v := ?_) (a' := ?_) #[true, true, true, true, true, true, true, false, false, false, false, false, false] rfl rfl (any_of HT_.out (by kernel_rfl)) (fun _ _ _ h => h) (Or.inl ⟨by rfl, ?_⟩) ?_ ?_
         rotate_left
         ·intro w'
          go_simp
          with_reducible rfl
         rotate_left
         ·simp only [Act.put, List.setIfInBounds_toArray, List.set_cons_zero, List.set_cons_succ, i64_w, i32_w]
          rfl
         refine pure_ (i := 7) (N := some 49) (v := ?_) (a' := ?_) #[true, true, true, true, true, true, true, true, false, false, false, false, false] rfl rfl (any_of HT_.out (by kernel_rfl)) (fun _ _ _ h => h) (Or.inl ⟨by rfl, ?_⟩) ?_ ?_
         rotate_left
         ·intro w'
          go_simp
          with_reducible rfl
         rotate_left
         ·simp only [Act.put, List.setIfInBounds_toArray, List.set_cons_zero, List.set_cons_succ, i64_w, i32_w]
          rfl
         refine pure_ (i := 8) (N := some 50) (v := ?_) (a' := ?_) #[true, true, true, true, true, true, true, true, true, false, false, false, false] rfl rfl (any_of HT_.out (by kernel_rfl)) (fun _ _ _ h => h) (Or.inl ⟨by rfl, ?_⟩) ?_ ?_
         rotate_left
         ·intro w'
          go_simp
          with_reducible rfl
         rotate_left
         ·simp only [Act.put, List.setIfInBounds_toArray, List.set_cons_zero, List.set_cons_succ, i64_w, i32_w]
          rfl
         refine one_ (i := 9) (N := some 51) #[true, true, true, true, true, true, true, true, true, true, false, false, false] rfl rfl (one_of HT_.out (by kernel_rfl)) (by decide) (fun K hK => ?_)
         refine value_ (w1 := ?_) (v := ?_) (by rfl) rfl ?_ ?_
         rotate_left 2
         ·go_simp
          constructor
          ·rfl
          ·rfl
         refine hK.out _ _ ⟨(blk_cell (blk_alloc BK171.out _) 0).trans rfl, (blk_cell (blk_alloc BK171.out _) 1).trans rfl, (blk_cell (blk_alloc BK171.out _) 2).trans rfl⟩ (fun hHeld => ?_)
         clear hK K
         refine norm_ (a' := ?_) ?_ ?_
         rotate_left
         ·show Act.put _ (some 51) _ = _
          simp only [Act.put, List.setIfInBounds_toArray, List.set_cons_zero, List.set_cons_succ, i64_w, i32_w]
          rfl
         refine one_ (i := 10) (N := some 52) #[true, true, true, true, true, true, true, true, true, true, true, false, false] rfl rfl (one_of HT_.out (by kernel_rfl)) (by decide) (fun K hK => ?_)
         refine Kd.R_append_step k46 (w0 := w) w.heap.size (by rfl) (.tmp 43) (.tmp 51) 23 46 (.agg #[(.string ⟨#[]⟩), (.int .i64 0)]) 24 rfl Try.underlying23 info46 rfl (by decide) (by omega) u172002 x172002_1 (⟨t195, wrap64 (ji32)⟩ : S46) [.string t195, .int .i64 (wrap64 (ji32))] (fun _ => True) (fun _ => False) rfl rfl ?aP (fun _ hk => hk.elim) ?aF ?aO ?aB ?aS ?aL ?_
         (case aP => exact k46_mkM _ _ _ (⟨t195, wrap64 (ji32)⟩ : S46))
         (case aB => exact (by repeat (first | (with_reducible first | exact HB.out | apply below_alloc | apply pw_below_drewN | apply below_drew1 | refine below_set ?_ (IsS100.ge HI170.out) | refine below_set ?_ GE166.out | refine below_set ?_ GE171.out) | exact HB.out)))
         (case aF => exact (fun _ _ => trivial))
         (case aO => exact (by (with_reducible repeat (first | apply Kd.R_alloc | apply Kd.R_drewN | apply Kd.R_drew)); exact HO_172002.out))
         (case aS => exact (below_size (by repeat (first | (with_reducible first | exact HB.out | apply below_alloc | apply pw_below_drewN | apply below_drew1 | refine below_set ?_ (IsS100.ge HI170.out) | refine below_set ?_ GE166.out | refine below_set ?_ GE171.out) | exact HB.out))))
         (case aL => have := LMc33.out; omega)
         intro v204 w37 ho hb hg hat
         rw [← Ny203.out] at ho
         have n0_ := Aside0.mk (Kd.R_over' (by (with_reducible repeat (first | apply Kd.R_alloc | apply Kd.R_drewN | apply Kd.R_drew)); exact HO_172001.out) (Kd.R_typed (by (with_reducible repeat (first | apply Kd.R_alloc | apply Kd.R_drewN | apply Kd.R_drew)); exact HO_172002.out)) (by decide) hg)
         have n1_ := Aside0.mk (blk_grown (g := gb166) (o := .cells #[.bool x167000_1, .slice none 0 0, .slice none 0 0] 25 (0, 0)) (by (with_reducible repeat (first | refine blk_drewN ?_ _ | refine blk_drew ?_ | refine blk_alloc ?_ _)); exact BK166.out) hg (Kd.R_ne HO_172002.out BK166.out (by decide)))
         have n2_ := Aside0.mk (blk_grown (g := gb171) (o := .cells #[.bool x172000_1, u172001, u172002] 25 (0, 0)) (by (with_reducible repeat (first | refine blk_drewN ?_ _ | refine blk_drew ?_ | refine blk_alloc ?_ _)); exact BK171.out) hg (Kd.R_ne HO_172002.out BK171.out (by decide)))
         have n3_ := Aside0.mk (IsS100.grown (by repeat (first | (with_reducible first | exact HI170.out | apply IsS100.alloc | apply IsS100.drewN | apply IsS100.drew | apply IsS100.set_0 | apply IsS100.set_1 | apply IsS100.set_2 | refine IsS100.far ?_ NB170_166.out _ | refine IsS100.far ?_ NB170_171.out _) | exact HI170.out)) hg (IsS100.own_ne HI170.out HO_172002.out (by decide)))
         have n4_ := Aside0.mk (hb)
         have n5_ := Aside0.mk (ho)
         clear HO_172001
         clear BK166
         clear BK171
         clear HI170
         clear HB
         clear HO_172002
         have HO_172001 := n0_
         have BK166 := n1_
         have BK171 := n2_
         have HI170 := n3_
         have HB := n4_
         have HO205 := n5_
         clear n0_ n1_ n2_ n3_ n4_ n5_
         clear ho hb hg hat
         obtain ⟨Ao38, co38, eo38⟩ := Kd.R_slice HO205.out
         (first | subst eo38 | (injection eo38 with f1_ f2_ f3_; have f4_ := f1_.symm; have f5_ := f3_.symm; clear f1_ f2_ f3_; subst f4_; subst f5_))
         refine hK.out _ _ ⟨(blk_cell BK171.out 0).trans rfl, (blk_cell BK171.out 1).trans rfl, (blk_cell BK171.out 2).trans rfl⟩ (fun hHeld => ?_)
         clear hK K
         refine norm_ (a' := ?_) ?_ ?_
         rotate_left
         ·show Act.put _ (some 52) _ = _
          simp only [Act.put, List.setIfInBounds_toArray, List.set_cons_zero, List.set_cons_succ, i64_w, i32_w]
          rfl
         refine pure_ (i := 11) (N := some 53) (v := ?_) (a' := ?_) #[true, true, true, true, true, true, true, true, true, true, true, true, false] rfl rfl (any_of HT_.out (by kernel_rfl)) (fun _ _ _ h => h) (Or.inl ⟨by rfl, ?_⟩) ?_ ?_
         rotate_left
         ·intro w'
          go_simp
          with_reducible rfl
         rotate_left
         ·simp only [Act.put, List.setIfInBounds_toArray, List.set_cons_zero, List.set_cons_succ, i64_w, i32_w]
          rfl
         refine last_ (i := 12) (N := none) #[true, true, true, true, true, true, true, true, true, true, true, true, true] rfl rfl (one_of HT_.out (by kernel_rfl)) (by decide) (fun K hK => ?_)
         have hs39 : w37.cell? ⟨gb171, 2, none⟩ = some (u172002) := (blk_cell BK171.out 2).trans rfl
         have hfs39 := blk_frozen BK171.out 2
         have hns39_0 := NB166_171.out
         have hms39_0 := NB171_166.out
         refine skip_ (w1 := ?_) (by rfl) rfl ?_ ?_
         rotate_left
         ·go_simp
          rfl
         refine hK.out _ _ ?_
         clear hK K
         refine done_ (done_of HT_.out (by kernel_rfl)) ?_
         try go_wp2
         go_roundg kj9
         case measure => have := HK1.out; have := HJ9.out; omega
         case rel => exact ⟨(IntKind.u64.wrap (x7_1 - 1)), (x167000_1), (t200), (t201), (t202), (x172000_1), (x172001_1), (y203), (u172001), (.slice Ao38 y203.length co38), (by first | rfl | (simp; done) | (simp [*]; done)), H', ⟨by have := HK1.out; have := HJ9.out; omega⟩, ⟨by (with_reducible repeat (first | apply Kd.R_alloc | apply Kd.R_drewN | apply Kd.R_drew)); exact Kd.R_mono (Kd.R_far (p := ⟨gb171, 2, none⟩) (Kd.R_types HO_172001.out BK171.out (by decide)) (fun _ hk => hk.2) (.slice Ao38 y203.length co38)) (fun _ hk => trivial)⟩, ⟨by (with_reducible repeat (first | apply Kd.R_alloc | apply Kd.R_drewN | apply Kd.R_drew)); exact Kd.R_mono (Kd.R_far (p := ⟨gb171, 2, none⟩) (Kd.R_types HO205.out BK171.out (by decide)) (fun _ hk => hk.2) (.slice Ao38 y203.length co38)) (fun _ hk => trivial)⟩, ⟨by (with_reducible repeat (first | refine blk_drewN ?_ _ | refine blk_drew ?_ | refine blk_alloc ?_ _)); refine blk_far ?_ NB166_171.out _; (with_reducible repeat (first | refine blk_drewN ?_ _ | refine blk_drew ?_ | refine blk_alloc ?_ _)); exact BK166.out⟩, ⟨by (with_reducible repeat (first | refine blk_drewN ?_ _ | refine blk_drew ?_ | refine blk_alloc ?_ _)); refine blk_put (cs := #[.bool x172000_1, u172001, u172002]) ?_ 2 _ rfl; (with_reducible repeat (first | refine blk_drewN ?_ _ | refine blk_drew ?_ | refine blk_alloc ?_ _)); exact BK171.out⟩, ⟨by repeat (first | (with_reducible first | exact HI170.out | apply IsS100.alloc | apply IsS100.drewN | apply IsS100.drew | apply IsS100.set_0 | apply IsS100.set_1 | apply IsS100.set_2 | refine IsS100.far ?_ NB170_166.out _ | refine IsS100.far ?_ NB170_171.out _) | exact HI170.out)⟩, ⟨by repeat (first | (with_reducible first | exact HB.out | apply below_alloc | apply pw_below_drewN | apply below_drew1 | refine below_set ?_ (IsS100.ge HI170.out) | refine below_set ?_ GE166.out | refine below_set ?_ GE171.out) | exact HB.out)⟩⟩
        ·rw [if_neg c33] at H
         exact absurd H (by simp)
       ·rw [if_neg c29] at H
        have c29b0 : (t172 == 2) = false := beq_eq_false_iff_ne.mpr c29
        have c29b1 : (t172 != 2) = true := bne_iff_ne.mpr c29
        simp only [Option.some.injEq, Prod.mk.injEq] at H
        obtain ⟨rfl, rfl, rfl, rfl⟩ := H
        have hnb40 := NB166_171.out
        have hnc40 := NB171_166.out
        have hnb41 := NB166_170.out
        have hnc41 := NB170_166.out
        have hcz42_0 : wc.cell? ⟨gb166, 0, none⟩ = some (.bool x167000_1) := (blk_cell BK166.out 0).trans rfl
        have hcz42_1 : wc.cell? ⟨gb166, 1, none⟩ = some (.slice none 0 0) := (blk_cell BK166.out 1).trans rfl
        have hcz42_2 : wc.cell? ⟨gb166, 2, none⟩ = some (.slice none 0 0) := (blk_cell BK166.out 2).trans rfl
        have hfz42_0 := blk_frozen BK166.out 0
        have hfz42_1 := blk_frozen BK166.out 1
        have hfz42_2 := blk_frozen BK166.out 2
        go_wp2
        refine bodyPost_ret (results_ct rfl _ _ gb166 25 #[.bool false, .slice none 0 0, .slice none 0 0] (0, 0) _ rfl (by (with_reducible repeat (first | refine blk_drewN ?_ _ | refine blk_drew ?_ | refine blk_alloc ?_ _)); refine blk_put (cs := #[.bool false, .slice none 0 0, .slice none 0 0]) ?_ 2 _ rfl; (with_reducible repeat (first | refine blk_drewN ?_ _ | refine blk_drew ?_ | refine blk_alloc ?_ _)); refine blk_put (cs := #[.bool false, .slice none 0 0, .slice none 0 0]) ?_ 1 _ rfl; (with_reducible repeat (first | refine blk_drewN ?_ _ | refine blk_drew ?_ | refine blk_alloc ?_ _)); refine blk_put (cs := #[.bool x167000_1, .slice none 0 0, .slice none 0 0]) ?_ 0 _ rfl; (with_reducible repeat (first | refine blk_drewN ?_ _ | refine blk_drew ?_ | refine blk_alloc ?_ _)); exact BK166.out) Try.underlying25 rfl (by kernel_rfl)) rfl ?_
        exact ⟨_, _, by first | rfl | (simp [errW_none, errW_some] <;> rfl) | (simp [*, errW_none, errW_some] <;> rfl), by first | exact Kd.R_nil _ _ _ _ _ | exact Kd.N_nil _ _ _ _ _ | exact Kd.V_nil _ _ _ _ _ | exact Kd.Q_nil _ _ _ _ _ | exact Kd.S_nil _ _ _ _ _, by first | exact Kd.R_nil _ _ _ _ _ | exact Kd.N_nil _ _ _ _ _ | exact Kd.V_nil _ _ _ _ _ | exact Kd.Q_nil _ _ _ _ _ | exact Kd.S_nil _ _ _ _ _, by repeat (first | (with_reducible first | exact HB.out | apply below_alloc | apply pw_below_drewN | apply below_drew1 | refine below_set ?_ (IsS100.ge HI170.out) | refine below_set ?_ GE166.out | refine below_set ?_ GE171.out) | exact HB.out)⟩
     ·replace c14 := Bool.eq_false_iff.mpr c14
      subst c14
      have H1 : ((pack_Reader_End.f x171000_9 x171001_9 x171002_9).bind fun bt206 => (if bt206.1 = 0 then ((node_Check.f x172000_1 x172001_1 x172002_1).bind fun t210 => (if t210 = 0 then (some (x172000_1, x172001_1, x172002_1, 0)) else (some (false, ([] : List (S44)), ([] : List (S46)), 60)))) else (some (false, ([] : List (S44)), ([] : List (S46)), 60)))) = some (r1, r2, r3, r4) := by rw [if_neg (show ¬ (false = true) by decide)] at H; exact H
      clear H
      have H := H1
      clear H1
      replace H := Option.bind_eq_some_iff.mp H
      obtain ⟨⟨t206, t207, t208, t209⟩, A430, H⟩ := H
      replace H : (if t206 = 0 then ((node_Check.f x172000_1 x172001_1 x172002_1).bind fun t210 => (if t210 = 0 then (some (x172000_1, x172001_1, x172002_1, 0)) else (some (false, ([] : List (S44)), ([] : List (S46)), 60)))) else (some (false, ([] : List (S44)), ([] : List (S46)), 60))) = some (r1, r2, r3, r4) := H
      have A43 := Aside0.mk A430
      clear A430
      by_cases c44 : t206 = 0
      ·rw [if_pos c44] at H
       have c44b0 : (t206 == 0) = true := beq_iff_eq.mpr c44
       have c44b1 : (t206 != 0) = false := bne_eq_false_iff_eq.mpr c44
       clear c44
       replace H := Option.bind_eq_some_iff.mp H
       obtain ⟨t210, A450, H⟩ := H
       replace H : (if t210 = 0 then (some (x172000_1, x172001_1, x172002_1, 0)) else (some (false, ([] : List (S44)), ([] : List (S46)), 60))) = some (r1, r2, r3, r4) := H
       have A45 := Aside0.mk A450
       clear A450
       by_cases c46 : t210 = 0
       ·rw [if_pos c46] at H
        have c46b0 : (t210 == 0) = true := beq_iff_eq.mpr c46
        have c46b1 : (t210 != 0) = false := bne_eq_false_iff_eq.mpr c46
        clear c46
        simp only [Option.some.injEq, Prod.mk.injEq] at H
        obtain ⟨rfl, rfl, rfl, rfl⟩ := H
        go_wp2_with (first | ((with_reducible refine gate_callee (f := 43) rfl ?_); refine goesL_ (some 55) rfl rfl Try.func43 (by kernel_rfl) rfl #[.pointer (some ⟨g170, 0, none⟩)] rfl (by (try simp only [List.map_toArray, List.map_cons, List.map_nil]); first | done | rfl | (simp only [List.length_drop, List.length_take]; rfl)) ?_; (with_reducible refine (pack_Reader_End.calls g170 x171000_9 x171001_9 x171002_9 t206 t207 t208 t209 w _ ?side1 ?side2 A43.out).mono ?_); (case side1 => repeat (first | (with_reducible first | exact HI170.out | apply IsS100.alloc | apply IsS100.drewN | apply IsS100.drew | apply IsS100.set_0 | apply IsS100.set_1 | apply IsS100.set_2 | refine IsS100.far ?_ NB170_166.out _ | refine IsS100.far ?_ NB170_171.out _) | exact HI170.out)); (case side2 => repeat (first | (with_reducible first | exact HB.out | apply below_alloc | apply pw_below_drewN | apply below_drew1 | refine below_set ?_ (IsS100.ge HI170.out) | refine below_set ?_ GE166.out | refine below_set ?_ GE171.out) | exact HB.out)); rintro e w47 ⟨rfl, hi, hb, hk⟩; refine ⟨_, rfl, ?_⟩; have n0_ := Aside0.mk (Kd.R_mono (Kd.R_keep (IsS100.apart (show IsS100 w _ g170 x171000_9 x171001_9 x171002_9 from by repeat (first | (with_reducible first | exact HI170.out | apply IsS100.alloc | apply IsS100.drewN | apply IsS100.drew | apply IsS100.set_0 | apply IsS100.set_1 | apply IsS100.set_2 | refine IsS100.far ?_ NB170_166.out _ | refine IsS100.far ?_ NB170_171.out _) | exact HI170.out)) (by (with_reducible repeat (first | apply Kd.R_alloc | apply Kd.R_drewN | apply Kd.R_drew)); exact HO_172001.out) (by decide)) hk (fun _ h => h.2)) (fun _ h => h.1)); have n1_ := Aside0.mk (Kd.R_mono (Kd.R_keep (IsS100.apart (show IsS100 w _ g170 x171000_9 x171001_9 x171002_9 from by repeat (first | (with_reducible first | exact HI170.out | apply IsS100.alloc | apply IsS100.drewN | apply IsS100.drew | apply IsS100.set_0 | apply IsS100.set_1 | apply IsS100.set_2 | refine IsS100.far ?_ NB170_166.out _ | refine IsS100.far ?_ NB170_171.out _) | exact HI170.out)) (by (with_reducible repeat (first | apply Kd.R_alloc | apply Kd.R_drewN | apply Kd.R_drew)); exact HO_172002.out) (by decide)) hk (fun _ h => h.2)) (fun _ h => h.1)); have n2_ := Aside0.mk (KeepBut.blk hk (g' := gb166) (o := .cells #[.bool x167000_1, .slice none 0 0, .slice none 0 0] 25 (0, 0)) (by (with_reducible repeat (first | refine blk_drewN ?_ _ | refine blk_drew ?_ | refine blk_alloc ?_ _)); exact BK166.out) NB166_170.out (by simp)); have n3_ := Aside0.mk (KeepBut.blk hk (g' := gb171) (o := .cells #[.bool x172000_1, u172001, u172002] 25 (0, 0)) (by (with_reducible repeat (first | refine blk_drewN ?_ _ | refine blk_drew ?_ | refine blk_alloc ?_ _)); exact BK171.out) NB171_170.out (by simp)); have n4_ := Aside0.mk (hb); have n5_ := Aside0.mk (hi); clear HO_172001; clear HO_172002; clear BK166; clear BK171; clear HB; clear HI170; have HO_172001 := n0_; have HO_172002 := n1_; have BK166 := n2_; have BK171 := n3_; have HB := n4_; have HI170 := n5_; clear n0_ n1_ n2_ n3_ n4_ n5_; (try clear hb); (try clear hb2); (try clear hk); (try clear hi); have hnb48 := NB171_166.out; have hnc48 := NB166_171.out; have hnb49 := NB171_170.out; have hnc49 := NB170_171.out; have hcz50_0 : w47.cell? ⟨gb171, 0, none⟩ = some (.bool x172000_1) := (blk_cell BK171.out 0).trans rfl; have hcz50_1 : w47.cell? ⟨gb171, 1, none⟩ = some (u172001) := (blk_cell BK171.out 1).trans rfl; have hcz50_2 : w47.cell? ⟨gb171, 2, none⟩ = some (u172002) := (blk_cell BK171.out 2).trans rfl; have hfz50_0 := blk_frozen BK171.out 0; have hfz50_1 := blk_frozen BK171.out 1; have hfz50_2 := blk_frozen BK171.out 2; obtain ⟨Ao51, co51, eo51⟩ := Kd.R_slice HO_172001.out; subst eo51; obtain ⟨Ao52, co52, eo52⟩ := Kd.R_slice HO_172002.out; subst eo52) | (go_at_call 13; (with_reducible refine (node_Check.calls x172000_1 _ _ x172001_1 _ _ x172002_1 t210 _ ?side1 ?side2 ?side3 ?side4 A45.out).mono ?_); (case side1 => repeat (first | exact (Kd.R_reads' HO_172001.out).2.2 | (with_reducible refine Kd.C_alloc ?_ _) | (with_reducible refine Kd.C_drewN ?_ _) | (with_reducible refine Kd.C_drew ?_))); (case side2 => exact (Kd.R_reads' HO_172001.out).2.1); (case side3 => repeat (first | exact (Kd.R_reads' HO_172002.out).2.2 | (with_reducible refine Kd.C_alloc ?_ _) | (with_reducible refine Kd.C_drewN ?_ _) | (with_reducible refine Kd.C_drew ?_))); (case side4 => exact (Kd.R_reads' HO_172002.out).2.1); rintro e w53 ⟨rfl, hb⟩; have n0_ := Aside0.mk (Kd.R_below (by (with_reducible repeat (first | apply Kd.R_alloc | apply Kd.R_drewN | apply Kd.R_drew)); exact HO_172001.out) hb); have n1_ := Aside0.mk (Kd.R_below (by (with_reducible repeat (first | apply Kd.R_alloc | apply Kd.R_drewN | apply Kd.R_drew)); exact HO_172002.out) hb); have n2_ := Aside0.mk (blk_below (g := gb166) (o := .cells #[.bool x167000_1, .slice none 0 0, .slice none 0 0] 25 (0, 0)) (by (with_reducible repeat (first | refine blk_drewN ?_ _ | refine blk_drew ?_ | refine blk_alloc ?_ _)); exact BK166.out) hb); have n3_ := Aside0.mk (blk_below (g := gb171) (o := .cells #[.bool x172000_1, .slice Ao51 x172001_1.length co51, .slice Ao52 x172002_1.length co52] 25 (0, 0)) (by (with_reducible repeat (first | refine blk_drewN ?_ _ | refine blk_drew ?_ | refine blk_alloc ?_ _)); exact BK171.out) hb); have n4_ := Aside0.mk (IsS100.below (by repeat (first | (with_reducible first | exact HI170.out | apply IsS100.alloc | apply IsS100.drewN | apply IsS100.drew | apply IsS100.set_0 | apply IsS100.set_1 | apply IsS100.set_2 | refine IsS100.far ?_ NB170_166.out _ | refine IsS100.far ?_ NB170_171.out _) | exact HI170.out)) hb); have n5_ := Aside0.mk (below_step (by repeat (first | (with_reducible first | exact HB.out | apply below_alloc | apply pw_below_drewN | apply below_drew1 | refine below_set ?_ (IsS100.ge HI170.out) | refine below_set ?_ GE166.out | refine below_set ?_ GE171.out) | exact HB.out)) hb); clear HO_172001; clear HO_172002; clear BK166; clear BK171; clear HI170; clear HB; have HO_172001 := n0_; have HO_172002 := n1_; have BK166 := n2_; have BK171 := n3_; have HI170 := n4_; have HB := n5_; clear n0_ n1_ n2_ n3_ n4_ n5_; (try clear hb); (try clear hb2); (try clear hk); (try clear hi); have hcz54_0 : w53.cell? ⟨gb171, 0, none⟩ = some (.bool x172000_1) := (blk_cell BK171.out 0).trans rfl; have hcz54_1 : w53.cell? ⟨gb171, 1, none⟩ = some (.slice Ao51 x172001_1.length co51) := (blk_cell BK171.out 1).trans rfl; have hcz54_2 : w53.cell? ⟨gb171, 2, none⟩ = some (.slice Ao52 x172002_1.length co52) := (blk_cell BK171.out 2).trans rfl; have hfz54_0 := blk_frozen BK171.out 0; have hfz54_1 := blk_frozen BK171.out 1; have hfz54_2 := blk_frozen BK171.out 2; have hnb55 := NB166_170.out; have hnc55 := NB170_166.out; have hcz56_0 : w53.cell? ⟨gb166, 0, none⟩ = some (.bool x167000_1) := (blk_cell BK166.out 0).trans rfl; have hcz56_1 : w53.cell? ⟨gb166, 1, none⟩ = some (.slice none 0 0) := (blk_cell BK166.out 1).trans rfl; have hcz56_2 : w53.cell? ⟨gb166, 2, none⟩ = some (.slice none 0 0) := (blk_cell BK166.out 2).trans rfl; have hfz56_0 := blk_frozen BK166.out 0; have hfz56_1 := blk_frozen BK166.out 1; have hfz56_2 := blk_frozen BK166.out 2))
        refine bodyPost_ret (results_ct rfl _ _ gb166 25 #[.bool x172000_1, .slice Ao51 x172001_1.length co51, .slice Ao52 x172002_1.length co52] (0, 0) _ rfl (by (with_reducible repeat (first | refine blk_drewN ?_ _ | refine blk_drew ?_ | refine blk_alloc ?_ _)); refine blk_put (cs := #[.bool x172000_1, .slice Ao51 x172001_1.length co51, .slice none 0 0]) ?_ 2 _ rfl; (with_reducible repeat (first | refine blk_drewN ?_ _ | refine blk_drew ?_ | refine blk_alloc ?_ _)); refine blk_put (cs := #[.bool x172000_1, .slice none 0 0, .slice none 0 0]) ?_ 1 _ rfl; (with_reducible repeat (first | refine blk_drewN ?_ _ | refine blk_drew ?_ | refine blk_alloc ?_ _)); refine blk_put (cs := #[.bool x167000_1, .slice none 0 0, .slice none 0 0]) ?_ 0 _ rfl; (with_reducible repeat (first | refine blk_drewN ?_ _ | refine blk_drew ?_ | refine blk_alloc ?_ _)); exact BK166.out) Try.underlying25 rfl (by kernel_rfl)) rfl ?_
        exact ⟨_, _, by first | rfl | (simp [errW_none, errW_some] <;> rfl) | (simp [*, errW_none, errW_some] <;> rfl), by (with_reducible repeat (first | apply Kd.R_alloc | apply Kd.R_drewN | apply Kd.R_drew)); exact Kd.R_mono (Kd.R_far (p := ⟨gb166, 2, none⟩) (Kd.R_far (p := ⟨gb166, 1, none⟩) (Kd.R_far (p := ⟨gb166, 0, none⟩) (Kd.R_types HO_172001.out BK166.out (by decide)) (fun _ hk => hk.2) (.bool x172000_1)) (fun _ hk => hk.2) (.slice Ao51 x172001_1.length co51)) (fun _ hk => hk.2) (.slice Ao52 x172002_1.length co52)) (fun _ hk => trivial), by (with_reducible repeat (first | apply Kd.R_alloc | apply Kd.R_drewN | apply Kd.R_drew)); exact Kd.R_mono (Kd.R_far (p := ⟨gb166, 2, none⟩) (Kd.R_far (p := ⟨gb166, 1, none⟩) (Kd.R_far (p := ⟨gb166, 0, none⟩) (Kd.R_types HO_172002.out BK166.out (by decide)) (fun _ hk => hk.2) (.bool x172000_1)) (fun _ hk => hk.2) (.slice Ao51 x172001_1.length co51)) (fun _ hk => hk.2) (.slice Ao52 x172002_1.length co52)) (fun _ hk => trivial), by repeat (first | (with_reducible first | exact HB.out | apply below_alloc | apply pw_below_drewN | apply below_drew1 | refine below_set ?_ (IsS100.ge HI170.out) | refine below_set ?_ GE166.out | refine below_set ?_ GE171.out) | exact HB.out)⟩
       ·rw [if_neg c46] at H
        have c46b0 : (t210 == 0) = false := beq_eq_false_iff_ne.mpr c46
        have c46b1 : (t210 != 0) = true := bne_iff_ne.mpr c46
        simp only [Option.some.injEq, Prod.mk.injEq] at H
        obtain ⟨rfl, rfl, rfl, rfl⟩ := H
        go_wp2_with (first | ((with_reducible refine gate_callee (f := 43) rfl ?_); refine goesL_ (some 55) rfl rfl Try.func43 (by kernel_rfl) rfl #[.pointer (some ⟨g170, 0, none⟩)] rfl (by (try simp only [List.map_toArray, List.map_cons, List.map_nil]); first | done | rfl | (simp only [List.length_drop, List.length_take]; rfl)) ?_; (with_reducible refine (pack_Reader_End.calls g170 x171000_9 x171001_9 x171002_9 t206 t207 t208 t209 w _ ?side1 ?side2 A43.out).mono ?_); (case side1 => repeat (first | (with_reducible first | exact HI170.out | apply IsS100.alloc | apply IsS100.drewN | apply IsS100.drew | apply IsS100.set_0 | apply IsS100.set_1 | apply IsS100.set_2 | refine IsS100.far ?_ NB170_166.out _ | refine IsS100.far ?_ NB170_171.out _) | exact HI170.out)); (case side2 => repeat (first | (with_reducible first | exact HB.out | apply below_alloc | apply pw_below_drewN | apply below_drew1 | refine below_set ?_ (IsS100.ge HI170.out) | refine below_set ?_ GE166.out | refine below_set ?_ GE171.out) | exact HB.out)); rintro e w57 ⟨rfl, hi, hb, hk⟩; refine ⟨_, rfl, ?_⟩; have n0_ := Aside0.mk (Kd.R_mono (Kd.R_keep (IsS100.apart (show IsS100 w _ g170 x171000_9 x171001_9 x171002_9 from by repeat (first | (with_reducible first | exact HI170.out | apply IsS100.alloc | apply IsS100.drewN | apply IsS100.drew | apply IsS100.set_0 | apply IsS100.set_1 | apply IsS100.set_2 | refine IsS100.far ?_ NB170_166.out _ | refine IsS100.far ?_ NB170_171.out _) | exact HI170.out)) (by (with_reducible repeat (first | apply Kd.R_alloc | apply Kd.R_drewN | apply Kd.R_drew)); exact HO_172001.out) (by decide)) hk (fun _ h => h.2)) (fun _ h => h.1)); have n1_ := Aside0.mk (Kd.R_mono (Kd.R_keep (IsS100.apart (show IsS100 w _ g170 x171000_9 x171001_9 x171002_9 from by repeat (first | (with_reducible first | exact HI170.out | apply IsS100.alloc | apply IsS100.drewN | apply IsS100.drew | apply IsS100.set_0 | apply IsS100.set_1 | apply IsS100.set_2 | refine IsS100.far ?_ NB170_166.out _ | refine IsS100.far ?_ NB170_171.out _) | exact HI170.out)) (by (with_reducible repeat (first | apply Kd.R_alloc | apply Kd.R_drewN | apply Kd.R_drew)); exact HO_172002.out) (by decide)) hk (fun _ h => h.2)) (fun _ h => h.1)); have n2_ := Aside0.mk (KeepBut.blk hk (g' := gb166) (o := .cells #[.bool x167000_1, .slice none 0 0, .slice none 0 0] 25 (0, 0)) (by (with_reducible repeat (first | refine blk_drewN ?_ _ | refine blk_drew ?_ | refine blk_alloc ?_ _)); exact BK166.out) NB166_170.out (by simp)); have n3_ := Aside0.mk (KeepBut.blk hk (g' := gb171) (o := .cells #[.bool x172000_1, u172001, u172002] 25 (0, 0)) (by (with_reducible repeat (first | refine blk_drewN ?_ _ | refine blk_drew ?_ | refine blk_alloc ?_ _)); exact BK171.out) NB171_170.out (by simp)); have n4_ := Aside0.mk (hb); have n5_ := Aside0.mk (hi); clear HO_172001; clear HO_172002; clear BK166; clear BK171; clear HB; clear HI170; have HO_172001 := n0_; have HO_172002 := n1_; have BK166 := n2_; have BK171 := n3_; have HB := n4_; have HI170 := n5_; clear n0_ n1_ n2_ n3_ n4_ n5_; (try clear hb); (try clear hb2); (try clear hk); (try clear hi); have hnb58 := NB171_166.out; have hnc58 := NB166_171.out; have hnb59 := NB171_170.out; have hnc59 := NB170_171.out; have hcz60_0 : w57.cell? ⟨gb171, 0, none⟩ = some (.bool x172000_1) := (blk_cell BK171.out 0).trans rfl; have hcz60_1 : w57.cell? ⟨gb171, 1, none⟩ = some (u172001) := (blk_cell BK171.out 1).trans rfl; have hcz60_2 : w57.cell? ⟨gb171, 2, none⟩ = some (u172002) := (blk_cell BK171.out 2).trans rfl; have hfz60_0 := blk_frozen BK171.out 0; have hfz60_1 := blk_frozen BK171.out 1; have hfz60_2 := blk_frozen BK171.out 2; obtain ⟨Ao61, co61, eo61⟩ := Kd.R_slice HO_172001.out; subst eo61; obtain ⟨Ao62, co62, eo62⟩ := Kd.R_slice HO_172002.out; subst eo62) | (go_at_call 13; (with_reducible refine (node_Check.calls x172000_1 _ _ x172001_1 _ _ x172002_1 t210 _ ?side1 ?side2 ?side3 ?side4 A45.out).mono ?_); (case side1 => repeat (first | exact (Kd.R_reads' HO_172001.out).2.2 | (with_reducible refine Kd.C_alloc ?_ _) | (with_reducible refine Kd.C_drewN ?_ _) | (with_reducible refine Kd.C_drew ?_))); (case side2 => exact (Kd.R_reads' HO_172001.out).2.1); (case side3 => repeat (first | exact (Kd.R_reads' HO_172002.out).2.2 | (with_reducible refine Kd.C_alloc ?_ _) | (with_reducible refine Kd.C_drewN ?_ _) | (with_reducible refine Kd.C_drew ?_))); (case side4 => exact (Kd.R_reads' HO_172002.out).2.1); rintro e w63 ⟨rfl, hb⟩; have n0_ := Aside0.mk (Kd.R_below (by (with_reducible repeat (first | apply Kd.R_alloc | apply Kd.R_drewN | apply Kd.R_drew)); exact HO_172001.out) hb); have n1_ := Aside0.mk (Kd.R_below (by (with_reducible repeat (first | apply Kd.R_alloc | apply Kd.R_drewN | apply Kd.R_drew)); exact HO_172002.out) hb); have n2_ := Aside0.mk (blk_below (g := gb166) (o := .cells #[.bool x167000_1, .slice none 0 0, .slice none 0 0] 25 (0, 0)) (by (with_reducible repeat (first | refine blk_drewN ?_ _ | refine blk_drew ?_ | refine blk_alloc ?_ _)); exact BK166.out) hb); have n3_ := Aside0.mk (blk_below (g := gb171) (o := .cells #[.bool x172000_1, .slice Ao61 x172001_1.length co61, .slice Ao62 x172002_1.length co62] 25 (0, 0)) (by (with_reducible repeat (first | refine blk_drewN ?_ _ | refine blk_drew ?_ | refine blk_alloc ?_ _)); exact BK171.out) hb); have n4_ := Aside0.mk (IsS100.below (by repeat (first | (with_reducible first | exact HI170.out | apply IsS100.alloc | apply IsS100.drewN | apply IsS100.drew | apply IsS100.set_0 | apply IsS100.set_1 | apply IsS100.set_2 | refine IsS100.far ?_ NB170_166.out _ | refine IsS100.far ?_ NB170_171.out _) | exact HI170.out)) hb); have n5_ := Aside0.mk (below_step (by repeat (first | (with_reducible first | exact HB.out | apply below_alloc | apply pw_below_drewN | apply below_drew1 | refine below_set ?_ (IsS100.ge HI170.out) | refine below_set ?_ GE166.out | refine below_set ?_ GE171.out) | exact HB.out)) hb); clear HO_172001; clear HO_172002; clear BK166; clear BK171; clear HI170; clear HB; have HO_172001 := n0_; have HO_172002 := n1_; have BK166 := n2_; have BK171 := n3_; have HI170 := n4_; have HB := n5_; clear n0_ n1_ n2_ n3_ n4_ n5_; (try clear hb); (try clear hb2); (try clear hk); (try clear hi); have hnb64 := NB166_170.out; have hnc64 := NB170_166.out; have hcz65_0 : w63.cell? ⟨gb166, 0, none⟩ = some (.bool x167000_1) := (blk_cell BK166.out 0).trans rfl; have hcz65_1 : w63.cell? ⟨gb166, 1, none⟩ = some (.slice none 0 0) := (blk_cell BK166.out 1).trans rfl; have hcz65_2 : w63.cell? ⟨gb166, 2, none⟩ = some (.slice none 0 0) := (blk_cell BK166.out 2).trans rfl; have hfz65_0 := blk_frozen BK166.out 0; have hfz65_1 := blk_frozen BK166.out 1; have hfz65_2 := blk_frozen BK166.out 2))
        refine bodyPost_ret (results_ct rfl _ _ gb166 25 #[.bool false, .slice none 0 0, .slice none 0 0] (0, 0) _ rfl (by (with_reducible repeat (first | refine blk_drewN ?_ _ | refine blk_drew ?_ | refine blk_alloc ?_ _)); refine blk_put (cs := #[.bool false, .slice none 0 0, .slice none 0 0]) ?_ 2 _ rfl; (with_reducible repeat (first | refine blk_drewN ?_ _ | refine blk_drew ?_ | refine blk_alloc ?_ _)); refine blk_put (cs := #[.bool false, .slice none 0 0, .slice none 0 0]) ?_ 1 _ rfl; (with_reducible repeat (first | refine blk_drewN ?_ _ | refine blk_drew ?_ | refine blk_alloc ?_ _)); refine blk_put (cs := #[.bool x167000_1, .slice none 0 0, .slice none 0 0]) ?_ 0 _ rfl; (with_reducible repeat (first | refine blk_drewN ?_ _ | refine blk_drew ?_ | refine blk_alloc ?_ _)); exact BK166.out) Try.underlying25 rfl (by kernel_rfl)) rfl ?_
        exact ⟨_, _, by first | rfl | (simp [errW_none, errW_some] <;> rfl) | (simp [*, errW_none, errW_some] <;> rfl), by first | exact Kd.R_nil _ _ _ _ _ | exact Kd.N_nil _ _ _ _ _ | exact Kd.V_nil _ _ _ _ _ | exact Kd.Q_nil _ _ _ _ _ | exact Kd.S_nil _ _ _ _ _, by first | exact Kd.R_nil _ _ _ _ _ | exact Kd.N_nil _ _ _ _ _ | exact Kd.V_nil _ _ _ _ _ | exact Kd.Q_nil _ _ _ _ _ | exact Kd.S_nil _ _ _ _ _, by repeat (first | (with_reducible first | exact HB.out | apply below_alloc | apply pw_below_drewN | apply below_drew1 | refine below_set ?_ (IsS100.ge HI170.out) | refine below_set ?_ GE166.out | refine below_set ?_ GE171.out) | exact HB.out)⟩
      ·rw [if_neg c44] at H
       have c44b0 : (t206 == 0) = false := beq_eq_false_iff_ne.mpr c44
       have c44b1 : (t206 != 0) = true := bne_iff_ne.mpr c44
       simp only [Option.some.injEq, Prod.mk.injEq] at H
       obtain ⟨rfl, rfl, rfl, rfl⟩ := H
       go_wp2_with (first | ((with_reducible refine gate_callee (f := 43) rfl ?_); refine goesL_ (some 55) rfl rfl Try.func43 (by kernel_rfl) rfl #[.pointer (some ⟨g170, 0, none⟩)] rfl (by (try simp only [List.map_toArray, List.map_cons, List.map_nil]); first | done | rfl | (simp only [List.length_drop, List.length_take]; rfl)) ?_; (with_reducible refine (pack_Reader_End.calls g170 x171000_9 x171001_9 x171002_9 t206 t207 t208 t209 w _ ?side1 ?side2 A43.out).mono ?_); (case side1 => repeat (first | (with_reducible first | exact HI170.out | apply IsS100.alloc | apply IsS100.drewN | apply IsS100.drew | apply IsS100.set_0 | apply IsS100.set_1 | apply IsS100.set_2 | refine IsS100.far ?_ NB170_166.out _ | refine IsS100.far ?_ NB170_171.out _) | exact HI170.out)); (case side2 => repeat (first | (with_reducible first | exact HB.out | apply below_alloc | apply pw_below_drewN | apply below_drew1 | refine below_set ?_ (IsS100.ge HI170.out) | refine below_set ?_ GE166.out | refine below_set ?_ GE171.out) | exact HB.out)); rintro e w66 ⟨rfl, hi, hb, hk⟩; refine ⟨_, rfl, ?_⟩; have n0_ := Aside0.mk (Kd.R_mono (Kd.R_keep (IsS100.apart (show IsS100 w _ g170 x171000_9 x171001_9 x171002_9 from by repeat (first | (with_reducible first | exact HI170.out | apply IsS100.alloc | apply IsS100.drewN | apply IsS100.drew | apply IsS100.set_0 | apply IsS100.set_1 | apply IsS100.set_2 | refine IsS100.far ?_ NB170_166.out _ | refine IsS100.far ?_ NB170_171.out _) | exact HI170.out)) (by (with_reducible repeat (first | apply Kd.R_alloc | apply Kd.R_drewN | apply Kd.R_drew)); exact HO_172001.out) (by decide)) hk (fun _ h => h.2)) (fun _ h => h.1)); have n1_ := Aside0.mk (Kd.R_mono (Kd.R_keep (IsS100.apart (show IsS100 w _ g170 x171000_9 x171001_9 x171002_9 from by repeat (first | (with_reducible first | exact HI170.out | apply IsS100.alloc | apply IsS100.drewN | apply IsS100.drew | apply IsS100.set_0 | apply IsS100.set_1 | apply IsS100.set_2 | refine IsS100.far ?_ NB170_166.out _ | refine IsS100.far ?_ NB170_171.out _) | exact HI170.out)) (by (with_reducible repeat (first | apply Kd.R_alloc | apply Kd.R_drewN | apply Kd.R_drew)); exact HO_172002.out) (by decide)) hk (fun _ h => h.2)) (fun _ h => h.1)); have n2_ := Aside0.mk (KeepBut.blk hk (g' := gb166) (o := .cells #[.bool x167000_1, .slice none 0 0, .slice none 0 0] 25 (0, 0)) (by (with_reducible repeat (first | refine blk_drewN ?_ _ | refine blk_drew ?_ | refine blk_alloc ?_ _)); exact BK166.out) NB166_170.out (by simp)); have n3_ := Aside0.mk (KeepBut.blk hk (g' := gb171) (o := .cells #[.bool x172000_1, u172001, u172002] 25 (0, 0)) (by (with_reducible repeat (first | refine blk_drewN ?_ _ | refine blk_drew ?_ | refine blk_alloc ?_ _)); exact BK171.out) NB171_170.out (by simp)); have n4_ := Aside0.mk (hb); have n5_ := Aside0.mk (hi); clear HO_172001; clear HO_172002; clear BK166; clear BK171; clear HB; clear HI170; have HO_172001 := n0_; have HO_172002 := n1_; have BK166 := n2_; have BK171 := n3_; have HB := n4_; have HI170 := n5_; clear n0_ n1_ n2_ n3_ n4_ n5_; (try clear hb); (try clear hb2); (try clear hk); (try clear hi); have hnb67 := NB166_171.out; have hnc67 := NB171_166.out; have hnb68 := NB166_170.out; have hnc68 := NB170_166.out; have hcz69_0 : w66.cell? ⟨gb166, 0, none⟩ = some (.bool x167000_1) := (blk_cell BK166.out 0).trans rfl; have hcz69_1 : w66.cell? ⟨gb166, 1, none⟩ = some (.slice none 0 0) := (blk_cell BK166.out 1).trans rfl; have hcz69_2 : w66.cell? ⟨gb166, 2, none⟩ = some (.slice none 0 0) := (blk_cell BK166.out 2).trans rfl; have hfz69_0 := blk_frozen BK166.out 0; have hfz69_1 := blk_frozen BK166.out 1; have hfz69_2 := blk_frozen BK166.out 2))
       refine bodyPost_ret (results_ct rfl _ _ gb166 25 #[.bool false, .slice none 0 0, .slice none 0 0] (0, 0) _ rfl (by (with_reducible repeat (first | refine blk_drewN ?_ _ | refine blk_drew ?_ | refine blk_alloc ?_ _)); refine blk_put (cs := #[.bool false, .slice none 0 0, .slice none 0 0]) ?_ 2 _ rfl; (with_reducible repeat (first | refine blk_drewN ?_ _ | refine blk_drew ?_ | refine blk_alloc ?_ _)); refine blk_put (cs := #[.bool false, .slice none 0 0, .slice none 0 0]) ?_ 1 _ rfl; (with_reducible repeat (first | refine blk_drewN ?_ _ | refine blk_drew ?_ | refine blk_alloc ?_ _)); refine blk_put (cs := #[.bool x167000_1, .slice none 0 0, .slice none 0 0]) ?_ 0 _ rfl; (with_reducible repeat (first | refine blk_drewN ?_ _ | refine blk_drew ?_ | refine blk_alloc ?_ _)); exact BK166.out) Try.underlying25 rfl (by kernel_rfl)) rfl ?_
       exact ⟨_, _, by first | rfl | (simp [errW_none, errW_some] <;> rfl) | (simp [*, errW_none, errW_some] <;> rfl), by first | exact Kd.R_nil _ _ _ _ _ | exact Kd.N_nil _ _ _ _ _ | exact Kd.V_nil _ _ _ _ _ | exact Kd.Q_nil _ _ _ _ _ | exact Kd.S_nil _ _ _ _ _, by first | exact Kd.R_nil _ _ _ _ _ | exact Kd.N_nil _ _ _ _ _ | exact Kd.V_nil _ _ _ _ _ | exact Kd.Q_nil _ _ _ _ _ | exact Kd.S_nil _ _ _ _ _, by repeat (first | (with_reducible first | exact HB.out | apply below_alloc | apply pw_below_drewN | apply below_drew1 | refine below_set ?_ (IsS100.ge HI170.out) | refine below_set ?_ GE166.out | refine below_set ?_ GE171.out) | exact HB.out)⟩

end Go.Proofs.Ytdkbikaheagbfaa.PA
