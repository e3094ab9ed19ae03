-- WRITTEN BY a program of this session (pp.sh)
import Derived.Test.YtdkbikaheagbfaaPTx0
import Derived.Test.YtdkbikaheagbfaaPTx10
import Derived.Test.YtdkbikaheagbfaaPTx11
import Derived.Test.YtdkbikaheagbfaaPTx13
import Derived.Test.YtdkbikaheagbfaaPTx18
import Derived.Test.YtdkbikaheagbfaaPTx19
namespace Go.Proofs.Ytdkbikaheagbfaa.PT
open Go.RowKit Go.Proofs.YtdkbikaheagbfaaW.PrintWords Go.Proofs.YtdkbikaheagbfaaW.PrintLast Go.Proofs.YtdkbikaheagbfaaW.PrintMore Go.Proofs.Ytdkbikaheagbfaa.Plain
attribute [local go_sem] max2_int min2_int max_two min_two max_three min_three max_four min_four binOp_leq_s binOp_gtr_s binOp_geq_s lit_byte   -- for this text's walks alone
set_option linter.unusedVariables false
set_option linter.unusedSimpArgs false

/-! ### coppicelaw06_NodeSplits: function 5 -/
mutual
def coppicelaw06_NodeSplits.j0 : Nat → List (S25) → List (S25) → Bool → Bool → List (S44) → List (S46) → Option (Bool)
 | 0, _, _, _, _, _, _ => none
 | k + 1, x3, x4, x37, x246000, x246001, x246002 => if x37 = true then (some false) else (coppicelaw06_NodeSplits.l0 k x3 x4 0 x246000 x246001 x246002 x246000 ([] : List (S44)) ([] : List (S46)))
def coppicelaw06_NodeSplits.l0 : Nat → List (S25) → List (S25) → Int → Bool → List (S44) → List (S46) → Bool → List (S44) → List (S46) → Option (Bool)
 | 0, _, _, _, _, _, _, _, _, _ => none
 | k + 1, x3, x4, x6, x246000, x246001, x246002, x257000, x257001, x257002 => if x6 < (x3.length : Int) then (if 0 ≤ x6 then (if x6 < (x4.length : Int) then ((coppiceref06_Same.f k ((rd_T25 x3 x6).f0) ((rd_T25 x3 x6).f1) ((rd_T25 x3 x6).f2) ((rd_T25 x4 x6).f0) ((rd_T25 x4 x6).f1) ((rd_T25 x4 x6).f2)).bind fun t260 => (if t260 = true then ((node_Check.f ((rd_T25 x3 x6).f0) ((rd_T25 x3 x6).f1) ((rd_T25 x3 x6).f2)).bind fun t262 => (if t262 = 0 then (if x257001.length + ((rd_T25 x3 x6).f1).length < 4398046511104 then (if x257002.length + ((rd_T25 x3 x6).f2).length < 5864062014805 then (coppicelaw06_NodeSplits.l0 k x3 x4 (wrap64 (x6 + 1)) x246000 x246001 x246002 x257000 (x257001 ++ ((rd_T25 x3 x6).f1)) (x257002 ++ ((rd_T25 x3 x6).f2))) else (none)) else (none)) else (some false))) else (some false))) else (none)) else (none)) else (if (x3.length : Int) = 0 then (some true) else ((coppiceref06_Same.f k x257000 x257001 x257002 x246000 x246001 x246002).bind fun t257 => (some t257)))
end
def coppicelaw06_NodeSplits.f (k : Nat) (a0_0 : Bool) (l0_1 : List (S44)) (l0_2 : List (S46)) : Option (Bool) := (coppicelaw06_awake.f).bind fun t246 => (if t246 = true then ((coppiceref06_Great.f k a0_0 l0_1 l0_2).bind fun t247 => (if t247 = true then (some true) else ((node_Split.f k a0_0 l0_1 l0_2).bind fun t248 => ((coppiceref06_Split.f k a0_0 l0_1 l0_2).bind fun t251 => (if (t248.length : Int) = (t251.length : Int) then ((node_Check.f a0_0 l0_1 l0_2).bind fun t254 => (if (((t248.length : Int) == 1) != (t254 == 0)) = true then (coppicelaw06_NodeSplits.j0 k t248 t251 true a0_0 l0_1 l0_2) else ((node_Check.f a0_0 l0_1 l0_2).bind fun t255 => (coppicelaw06_NodeSplits.j0 k t248 t251 (((t248.length : Int) == 0) != (t255 == 60)) a0_0 l0_1 l0_2)))) else (coppicelaw06_NodeSplits.j0 k t248 t251 true a0_0 l0_1 l0_2)))))) else (some false))
theorem coppicelaw06_NodeSplits.mono_l : ∀ k, (∀ y0 y1 y2 y3 y4 y5, LeO (coppicelaw06_NodeSplits.j0 k y0 y1 y2 y3 y4 y5) (coppicelaw06_NodeSplits.j0 (k + 1) y0 y1 y2 y3 y4 y5)) ∧ (∀ y0 y1 y2 y3 y4 y5 y6 y7 y8, LeO (coppicelaw06_NodeSplits.l0 k y0 y1 y2 y3 y4 y5 y6 y7 y8) (coppicelaw06_NodeSplits.l0 (k + 1) y0 y1 y2 y3 y4 y5 y6 y7 y8))
 | 0 => ⟨fun _ _ _ _ _ _ r h => by simp [coppicelaw06_NodeSplits.j0] at h, fun _ _ _ _ _ _ _ _ _ r h => by simp [coppicelaw06_NodeSplits.l0] at h⟩
 | k + 1 => by
  obtain ⟨ih0, ih1⟩ := coppicelaw06_NodeSplits.mono_l k
  refine ⟨?_, ?_⟩
  ·intro y0 y1 y2 y3 y4 y5
   unfold coppicelaw06_NodeSplits.j0
   repeat' first
   | (with_reducible exact ih1 _ _ _ _ _ _ _ _ _)
   | (with_reducible exact LeO.refl _)
   | (with_reducible refine LeO.ite ?_ ?_)
  ·intro y0 y1 y2 y3 y4 y5 y6 y7 y8
   unfold coppicelaw06_NodeSplits.l0
   repeat' first
   | (with_reducible exact ih1 _ _ _ _ _ _ _ _ _)
   | (with_reducible exact coppiceref06_Same.mono _ _ _ _ _ _ _)
   | (with_reducible exact LeO.refl _)
   | (with_reducible refine LeO.ite ?_ ?_)
   | (with_reducible refine LeO.bind ?_ (fun _ => ?_))
theorem coppicelaw06_NodeSplits.mono : ∀ a0 a1 a2 k, LeO (coppicelaw06_NodeSplits.f k a0 a1 a2) (coppicelaw06_NodeSplits.f (k + 1) a0 a1 a2) := by
 intro a0 a1 a2 k
 obtain ⟨ih0, ih1⟩ := coppicelaw06_NodeSplits.mono_l k
 unfold coppicelaw06_NodeSplits.f
 repeat' first
   | (with_reducible exact ih0 _ _ _ _ _ _)
   | (with_reducible exact coppiceref06_Great.mono _ _ _ _)
   | (with_reducible exact coppiceref06_Split.mono _ _ _ _)
   | (with_reducible exact node_Split.mono _ _ _ _)
   | (with_reducible exact LeO.refl _)
   | (with_reducible refine LeO.ite ?_ ?_)
   | (with_reducible refine LeO.bind ?_ (fun _ => ?_))
def coppicelaw06_NodeSplits.T12 : Bool × List (List Nat × List Nat) := (true, [([], []), ([], []), ([0, 1], [0, 1]), ([2], [2]), ([], []), ([], []), ([4, 5], [4, 5]), ([6], [6]), ([3, 7], [3, 7]), ([8], [8]), ([9, 8], [9]), ([10], [10]), ([10], [10]), ([11, 12, 10], [10, 11, 12]), ([13, 10], [10, 13]), ([14, 10, 10], [10, 14]), ([15, 10], [10, 15]), ([10, 16], [10, 16])])
def coppicelaw06_NodeSplits.B12 : List Nat := [0, 0, 3, 7, 0, 0, 48, 112, 255, 511, 1023, 2047, 2047, 8191, 16383, 32767, 65535, 131071]
theorem coppicelaw06_NodeSplits.tab12 : rtab .any (opsOf Try.f5 12) = coppicelaw06_NodeSplits.T12 := by kernel_rfl
theorem coppicelaw06_NodeSplits.bits12 : waitsOk coppicelaw06_NodeSplits.T12.2 coppicelaw06_NodeSplits.B12 = true := by kernel_rfl
def coppicelaw06_NodeSplits.T14 : Bool × List (List Nat × List Nat) := (true, [([], []), ([0], [0]), ([], []), ([], []), ([2, 3], [2, 3]), ([4], [4]), ([5], [5]), ([1, 6], [1, 6]), ([0, 1, 2, 3, 4, 5, 6, 7], []), ([8, 7, 7, 0, 1, 2, 3, 4, 5, 6, 7], [7, 8])])
def coppicelaw06_NodeSplits.B14 : List Nat := [0, 1, 0, 0, 12, 28, 60, 127, 255, 511]
theorem coppicelaw06_NodeSplits.tab14 : rtab .any (opsOf Try.f5 14) = coppicelaw06_NodeSplits.T14 := by kernel_rfl
theorem coppicelaw06_NodeSplits.bits14 : waitsOk coppicelaw06_NodeSplits.T14.2 coppicelaw06_NodeSplits.B14 = true := by kernel_rfl
def coppicelaw06_NodeSplits.T15 : Bool × List (List Nat × List Nat) := (true, [([], []), ([0], [0]), ([], []), ([], []), ([2, 3], [2, 3]), ([4], [4]), ([5], [5]), ([1, 6], [1, 6]), ([0, 1, 2, 3, 4, 5, 6, 7], []), ([8, 7, 7, 0, 1, 2, 3, 4, 5, 6, 7], [7, 8])])
def coppicelaw06_NodeSplits.B15 : List Nat := [0, 1, 0, 0, 12, 28, 60, 127, 255, 511]
theorem coppicelaw06_NodeSplits.tab15 : rtab .any (opsOf Try.f5 15) = coppicelaw06_NodeSplits.T15 := by kernel_rfl
theorem coppicelaw06_NodeSplits.bits15 : waitsOk coppicelaw06_NodeSplits.T15.2 coppicelaw06_NodeSplits.B15 = true := by kernel_rfl
set_option maxHeartbeats 8000000 in
set_option maxRecDepth 100000 in
theorem coppicelaw06_NodeSplits.calls (k : Nat) (a0_0 : Bool) (A0_1 : Option Addr) (c0_1 : Nat) (l0_1 : List (S44)) (A0_2 : Option Addr) (c0_2 : Nat) (l0_2 : List (S46)) (r : Bool) (w : World) (hr0_1 : Kd.C k44 w A0_1 l0_1.length l0_1) (hc0_1 : l0_1.length ≤ c0_1) (hr0_2 : Kd.C k46 w A0_2 l0_2.length l0_2) (hc0_2 : l0_2.length ≤ c0_2) (h : coppicelaw06_NodeSplits.f k a0_0 l0_1 l0_2 = some r) :
  Calls Try.prog 5 #[.agg #[.bool a0_0, .slice A0_1 l0_1.length c0_1, .slice A0_2 l0_2.length c0_2]] w fun e w' => e = .returned (.bool r) ∧ Below w.heap.size w w' := by
 have hu25 := Try.underlying25
 have HR0_1 := Aside0.mk hr0_1
 have HC0_1 := Aside0.mk hc0_1
 clear hr0_1 hc0_1
 have HR0_2 := Aside0.mk hr0_2
 have HC0_2 := Aside0.mk hc0_2
 clear hr0_2 hc0_2
 have HB := Aside0.mk (Below.refl w.heap.size w)
 have H : ((coppicelaw06_awake.f).bind fun qap => (if qap = true then ((coppiceref06_Great.f k a0_0 l0_1 l0_2).bind fun qae => (if qae = true then (some true) else ((node_Split.f k a0_0 l0_1 l0_2).bind fun qb => ((coppiceref06_Split.f k a0_0 l0_1 l0_2).bind fun qe => (if (qb.length : Int) = (qe.length : Int) then ((node_Check.f a0_0 l0_1 l0_2).bind fun qs => (if (((qb.length : Int) == 1) != (qs == 0)) = true then (coppicelaw06_NodeSplits.j0 k qb qe true a0_0 l0_1 l0_2) else ((node_Check.f a0_0 l0_1 l0_2).bind fun qv => (coppicelaw06_NodeSplits.j0 k qb qe (((qb.length : Int) == 0) != (qv == 60)) a0_0 l0_1 l0_2)))) else (coppicelaw06_NodeSplits.j0 k qb qe true a0_0 l0_1 l0_2)))))) else (some false))) = some r := h
 clear h
 replace H := Option.bind_eq_some_iff.mp H
 obtain ⟨qap, A20, H⟩ := H
 replace H : (if qap = true then ((coppiceref06_Great.f k a0_0 l0_1 l0_2).bind fun qae => (if qae = true then (some true) else ((node_Split.f k a0_0 l0_1 l0_2).bind fun qb => ((coppiceref06_Split.f k a0_0 l0_1 l0_2).bind fun qe => (if (qb.length : Int) = (qe.length : Int) then ((node_Check.f a0_0 l0_1 l0_2).bind fun qs => (if (((qb.length : Int) == 1) != (qs == 0)) = true then (coppicelaw06_NodeSplits.j0 k qb qe true a0_0 l0_1 l0_2) else ((node_Check.f a0_0 l0_1 l0_2).bind fun qv => (coppicelaw06_NodeSplits.j0 k qb qe (((qb.length : Int) == 0) != (qv == 60)) a0_0 l0_1 l0_2)))) else (coppicelaw06_NodeSplits.j0 k qb qe true a0_0 l0_1 l0_2)))))) else (some false)) = some r := H
 have A2 := Aside0.mk A20
 clear A20
 by_cases c3 : qap = true
 ·subst c3
  have H1 : ((coppiceref06_Great.f k a0_0 l0_1 l0_2).bind fun qae => (if qae = true then (some true) else ((node_Split.f k a0_0 l0_1 l0_2).bind fun qb => ((coppiceref06_Split.f k a0_0 l0_1 l0_2).bind fun qe => (if (qb.length : Int) = (qe.length : Int) then ((node_Check.f a0_0 l0_1 l0_2).bind fun qs => (if (((qb.length : Int) == 1) != (qs == 0)) = true then (coppicelaw06_NodeSplits.j0 k qb qe true a0_0 l0_1 l0_2) else ((node_Check.f a0_0 l0_1 l0_2).bind fun qv => (coppicelaw06_NodeSplits.j0 k qb qe (((qb.length : Int) == 0) != (qv == 60)) a0_0 l0_1 l0_2)))) else (coppicelaw06_NodeSplits.j0 k qb qe true a0_0 l0_1 l0_2)))))) = some r := by rw [if_pos rfl] at H; exact H
  clear H
  have H := H1
  clear H1
  replace H := Option.bind_eq_some_iff.mp H
  obtain ⟨qae, A40, H⟩ := H
  replace H : (if qae = true then (some true) else ((node_Split.f k a0_0 l0_1 l0_2).bind fun qb => ((coppiceref06_Split.f k a0_0 l0_1 l0_2).bind fun qe => (if (qb.length : Int) = (qe.length : Int) then ((node_Check.f a0_0 l0_1 l0_2).bind fun qs => (if (((qb.length : Int) == 1) != (qs == 0)) = true then (coppicelaw06_NodeSplits.j0 k qb qe true a0_0 l0_1 l0_2) else ((node_Check.f a0_0 l0_1 l0_2).bind fun qv => (coppicelaw06_NodeSplits.j0 k qb qe (((qb.length : Int) == 0) != (qv == 60)) a0_0 l0_1 l0_2)))) else (coppicelaw06_NodeSplits.j0 k qb qe true a0_0 l0_1 l0_2))))) = some r := H
  have A4 := Aside0.mk A40
  clear A40
  by_cases c5 : qae = true
  ·subst c5
   have H1 : (some true) = some r := by rw [if_pos rfl] at H; exact H
   clear H
   have H := H1
   clear H1
   obtain rfl := Option.some.inj H
   go_enter Try.func5, Try.ntmps5
   go_wp2_with (first | ((with_reducible refine gate_dst (N := 1) rfl ?_); (try (refine gate_guard (by rfl) ?_; dsimp only)); refine box_event ?hg (N := 1) ?hd (cs := #[.bool a0_0, .slice A0_1 l0_1.length c0_1, .slice A0_2 l0_2.length c0_2]) (t := 25) ?hr ?_; (case hd => rfl); (case hg => rfl); (case hr => ((go_simp; done))); intro qf hg w6 hbox hb; have n0_ := Aside0.mk (below_step (by repeat (((with_reducible (exact HB.out))))) hb); have n1_ := Aside0.mk (hbox); have n2_ := Aside0.mk ((by rw [hg]; exact (below_size (by repeat (((with_reducible (exact HB.out)))))) : w.heap.size ≤ qf)); have n3_ := Aside0.mk ((by rw [hg]; exact (below_size (by repeat (((with_reducible (exact HB.out)))))) : w.heap.size ≤ qf)); clear HB; have HB := n0_; have qc := n1_; have GW245 := n2_; have qat := n3_; clear n0_ n1_ n2_ n3_; clear hb hbox hg) | ((with_reducible refine gate_callee (f := 9) rfl ?_); refine goesL_ (some 7) rfl rfl Try.func9 (by kernel_rfl) rfl #[] rfl (by (try simp only [List.map_toArray, List.map_cons, List.map_nil]); (done)) ?_; (with_reducible refine (coppicelaw06_awake.calls  true _ A2.out).mono ?_); rintro e w7 ⟨rfl, hb⟩; refine ⟨_, rfl, ?_⟩; have n0_ := Aside0.mk (blk_below (g := qf) (o := .cells #[.bool a0_0, .slice A0_1 l0_1.length c0_1, .slice A0_2 l0_2.length c0_2] 25 (0, 0)) (by exact qc.out) hb); have n1_ := Aside0.mk (below_step (by repeat (((with_reducible (exact HB.out))))) hb); clear qc; clear HB; have qc := n0_; have HB := n1_; clear n0_ n1_; (try clear hb); (try clear hb2); (try clear hk); (try clear hi); have hcz8_0 : w7.cell? ⟨qf, 0, none⟩ = some (.bool a0_0) := (blk_cell qc.out 0).trans rfl; have hcz8_1 : w7.cell? ⟨qf, 1, none⟩ = some (.slice A0_1 l0_1.length c0_1) := (blk_cell qc.out 1).trans rfl; have hcz8_2 : w7.cell? ⟨qf, 2, none⟩ = some (.slice A0_2 l0_2.length c0_2) := (blk_cell qc.out 2).trans rfl; have hfz8_0 := blk_frozen qc.out 0; have hfz8_1 := blk_frozen qc.out 1; have hfz8_2 := blk_frozen qc.out 2) | ((with_reducible refine gate_callee (f := 10) rfl ?_); refine goesL_ (some 10) rfl rfl Try.func10 (by kernel_rfl) rfl #[.agg #[.bool a0_0, .slice A0_1 l0_1.length c0_1, .slice A0_2 l0_2.length c0_2]] rfl (by (try simp only [List.map_toArray, List.map_cons, List.map_nil]); (rfl)) ?_; (with_reducible refine (coppiceref06_Great.calls k a0_0 _ _ l0_1 _ _ l0_2 true _ ?side1 ?side2 ?side3 ?side4 A4.out).mono ?_); (case side1 => repeat ((exact (Kd.C_below HR0_1.out HB.out)))); (case side2 => exact HC0_1.out); (case side3 => repeat ((exact (Kd.C_below HR0_2.out HB.out)))); (case side4 => exact HC0_2.out); rintro e w9 ⟨rfl, hb⟩; refine ⟨_, rfl, ?_⟩; have n0_ := Aside0.mk (blk_below (g := qf) (o := .cells #[.bool a0_0, .slice A0_1 l0_1.length c0_1, .slice A0_2 l0_2.length c0_2] 25 (0, 0)) (by exact qc.out) hb); have n1_ := Aside0.mk (below_step (by repeat (((with_reducible (exact HB.out))))) hb); clear qc; clear HB; have qc := n0_; have HB := n1_; clear n0_ n1_; (try clear hb); (try clear hb2); (try clear hk); (try clear hi)))
   go_ret
   exact ⟨by (rfl), by repeat (((with_reducible (exact HB.out))))⟩
  ·replace c5 := Bool.eq_false_iff.mpr c5
   subst c5
   have H1 : ((node_Split.f k a0_0 l0_1 l0_2).bind fun qb => ((coppiceref06_Split.f k a0_0 l0_1 l0_2).bind fun qe => (if (qb.length : Int) = (qe.length : Int) then ((node_Check.f a0_0 l0_1 l0_2).bind fun qs => (if (((qb.length : Int) == 1) != (qs == 0)) = true then (coppicelaw06_NodeSplits.j0 k qb qe true a0_0 l0_1 l0_2) else ((node_Check.f a0_0 l0_1 l0_2).bind fun qv => (coppicelaw06_NodeSplits.j0 k qb qe (((qb.length : Int) == 0) != (qv == 60)) a0_0 l0_1 l0_2)))) else (coppicelaw06_NodeSplits.j0 k qb qe true a0_0 l0_1 l0_2)))) = some r := by rw [if_neg (show ¬ (false = true) by decide)] at H; exact H
   clear H
   have H := H1
   clear H1
   replace H := Option.bind_eq_some_iff.mp H
   obtain ⟨qb, A100, H⟩ := H
   replace H : ((coppiceref06_Split.f k a0_0 l0_1 l0_2).bind fun qe => (if (qb.length : Int) = (qe.length : Int) then ((node_Check.f a0_0 l0_1 l0_2).bind fun qs => (if (((qb.length : Int) == 1) != (qs == 0)) = true then (coppicelaw06_NodeSplits.j0 k qb qe true a0_0 l0_1 l0_2) else ((node_Check.f a0_0 l0_1 l0_2).bind fun qv => (coppicelaw06_NodeSplits.j0 k qb qe (((qb.length : Int) == 0) != (qv == 60)) a0_0 l0_1 l0_2)))) else (coppicelaw06_NodeSplits.j0 k qb qe true a0_0 l0_1 l0_2))) = some r := H
   have A10 := Aside0.mk A100
   clear A100
   replace H := Option.bind_eq_some_iff.mp H
   obtain ⟨qe, A110, H⟩ := H
   replace H : (if (qb.length : Int) = (qe.length : Int) then ((node_Check.f a0_0 l0_1 l0_2).bind fun qs => (if (((qb.length : Int) == 1) != (qs == 0)) = true then (coppicelaw06_NodeSplits.j0 k qb qe true a0_0 l0_1 l0_2) else ((node_Check.f a0_0 l0_1 l0_2).bind fun qv => (coppicelaw06_NodeSplits.j0 k qb qe (((qb.length : Int) == 0) != (qv == 60)) a0_0 l0_1 l0_2)))) else (coppicelaw06_NodeSplits.j0 k qb qe true a0_0 l0_1 l0_2)) = some r := H
   have A11 := Aside0.mk A110
   clear A110
   have qar := Aside0.mk H
   clear H
   go_enter Try.func5, Try.ntmps5
   try go_wp2_with (first | ((with_reducible refine gate_dst (N := 1) rfl ?_); (try (refine gate_guard (by rfl) ?_; dsimp only)); refine box_event ?hg (N := 1) ?hd (cs := #[.bool a0_0, .slice A0_1 l0_1.length c0_1, .slice A0_2 l0_2.length c0_2]) (t := 25) ?hr ?_; (case hd => rfl); (case hg => rfl); (case hr => ((go_simp; done))); intro qf hg w13 hbox hb; have n0_ := Aside0.mk (below_step (by repeat (((with_reducible (exact HB.out))))) hb); have n1_ := Aside0.mk (hbox); have n2_ := Aside0.mk ((by rw [hg]; exact (below_size (by repeat (((with_reducible (exact HB.out)))))) : w.heap.size ≤ qf)); have n3_ := Aside0.mk ((by rw [hg]; exact (below_size (by repeat (((with_reducible (exact HB.out)))))) : w.heap.size ≤ qf)); clear HB; have HB := n0_; have qc := n1_; have GW245 := n2_; have qat := n3_; clear n0_ n1_ n2_ n3_; clear hb hbox hg) | ((with_reducible refine gate_callee (f := 9) rfl ?_); refine goesL_ (some 7) rfl rfl Try.func9 (by kernel_rfl) rfl #[] rfl (by (try simp only [List.map_toArray, List.map_cons, List.map_nil]); (done)) ?_; (with_reducible refine (coppicelaw06_awake.calls  true _ A2.out).mono ?_); rintro e w14 ⟨rfl, hb⟩; refine ⟨_, rfl, ?_⟩; have n0_ := Aside0.mk (blk_below (g := qf) (o := .cells #[.bool a0_0, .slice A0_1 l0_1.length c0_1, .slice A0_2 l0_2.length c0_2] 25 (0, 0)) (by exact qc.out) hb); have n1_ := Aside0.mk (below_step (by repeat (((with_reducible (exact HB.out))))) hb); clear qc; clear HB; have qc := n0_; have HB := n1_; clear n0_ n1_; (try clear hb); (try clear hb2); (try clear hk); (try clear hi); have hcz15_0 : w14.cell? ⟨qf, 0, none⟩ = some (.bool a0_0) := (blk_cell qc.out 0).trans rfl; have hcz15_1 : w14.cell? ⟨qf, 1, none⟩ = some (.slice A0_1 l0_1.length c0_1) := (blk_cell qc.out 1).trans rfl; have hcz15_2 : w14.cell? ⟨qf, 2, none⟩ = some (.slice A0_2 l0_2.length c0_2) := (blk_cell qc.out 2).trans rfl; have hfz15_0 := blk_frozen qc.out 0; have hfz15_1 := blk_frozen qc.out 1; have hfz15_2 := blk_frozen qc.out 2) | ((with_reducible refine gate_callee (f := 10) rfl ?_); refine goesL_ (some 10) rfl rfl Try.func10 (by kernel_rfl) rfl #[.agg #[.bool a0_0, .slice A0_1 l0_1.length c0_1, .slice A0_2 l0_2.length c0_2]] rfl (by (try simp only [List.map_toArray, List.map_cons, List.map_nil]); (rfl)) ?_; (with_reducible refine (coppiceref06_Great.calls k a0_0 _ _ l0_1 _ _ l0_2 false _ ?side1 ?side2 ?side3 ?side4 A4.out).mono ?_); (case side1 => repeat ((exact (Kd.C_below HR0_1.out HB.out)))); (case side2 => exact HC0_1.out); (case side3 => repeat ((exact (Kd.C_below HR0_2.out HB.out)))); (case side4 => exact HC0_2.out); rintro e w16 ⟨rfl, hb⟩; refine ⟨_, rfl, ?_⟩; have n0_ := Aside0.mk (blk_below (g := qf) (o := .cells #[.bool a0_0, .slice A0_1 l0_1.length c0_1, .slice A0_2 l0_2.length c0_2] 25 (0, 0)) (by exact qc.out) hb); have n1_ := Aside0.mk (below_step (by repeat (((with_reducible (exact HB.out))))) hb); clear qc; clear HB; have qc := n0_; have HB := n1_; clear n0_ n1_; (try clear hb); (try clear hb2); (try clear hk); (try clear hi)))
   have n0_ := Aside0.mk (blk_drew qc.out)
   have n1_ := Aside0.mk (below_drew1 HB.out)
   clear qc HB
   have qc := n0_
   have HB := n1_
   clear n0_ n1_
   refine start_ (n := 6) (S := fun w' => w'.cell? ⟨qf, 0, none⟩ = some (.bool a0_0) ∧ w'.cell? ⟨qf, 1, none⟩ = some (.slice A0_1 l0_1.length c0_1) ∧ w'.cell? ⟨qf, 2, none⟩ = some (.slice A0_2 l0_2.length c0_2)) (ds := []) #[false, false, false, false, false, false] (by kernel_rfl) rfl rfl ⟨(blk_cell qc.out 0).trans rfl, (blk_cell qc.out 1).trans rfl, (blk_cell qc.out 2).trans rfl⟩ (fun hHeld => ?_)
   generalize w16.drew = w17 at qc HB hHeld ⊢
   refine take_ (i := 0) (N := some 11) (v := ?_) (a' := ?_) #[true, false, false, false, false, false] rfl rfl (by kernel_rfl) (fun _ _ _ h => h) (Or.inl ⟨by rfl, ?_⟩) hHeld ?_ ?_
   rotate_left
   ·rintro w' ⟨s0, s1, s2⟩
    go_simp
    with_reducible rfl
   rotate_left
   ·simp only [Act.put, List.setIfInBounds_toArray, List.set_cons_zero, List.set_cons_succ, i64_w, i32_w]
    rfl
   refine take_ (i := 2) (N := some 13) (v := ?_) (a' := ?_) #[true, false, true, false, false, false] rfl rfl (by kernel_rfl) (fun _ _ _ h => h) (Or.inl ⟨by rfl, ?_⟩) hHeld ?_ ?_
   rotate_left
   ·rintro w' ⟨s0, s1, s2⟩
    go_simp
    with_reducible rfl
   rotate_left
   ·simp only [Act.put, List.setIfInBounds_toArray, List.set_cons_zero, List.set_cons_succ, i64_w, i32_w]
    rfl
   refine one_ (i := 1) (N := some 12) #[true, true, true, false, false, false] rfl rfl (by kernel_rfl) (by decide) (fun K hK => ?_)
   refine goes_ Try.func19 (by kernel_rfl) rfl #[.agg #[.bool a0_0, .slice A0_1 l0_1.length c0_1, .slice A0_2 l0_2.length c0_2]] (by rfl) rfl rfl (by (try simp only [List.map_toArray, List.map_cons, List.map_nil]); (rfl)) ?_
   with_reducible refine (node_Split.calls k a0_0 _ _ l0_1 _ _ l0_2 qb _ ?side1 ?side2 ?side3 ?side4 A10.out).mono ?_
   (case side1 => repeat ((exact (Kd.C_below HR0_1.out HB.out))))
   (case side2 => exact HC0_1.out)
   (case side3 => repeat ((exact (Kd.C_below HR0_2.out HB.out))))
   (case side4 => exact HC0_2.out)
   rintro e w18 ⟨qam, rfl, ho0, hb⟩
   refine ⟨_, rfl, ?_⟩
   have n0_ := Aside0.mk (Kd.S_lower (Kd.S_newB ho0 (g := qf) (o := .cells #[.bool a0_0, .slice A0_1 l0_1.length c0_1, .slice A0_2 l0_2.length c0_2] 25 (0, 0)) (by exact qc.out)) (below_size (by repeat (((with_reducible (exact HB.out)))))))
   have n1_ := Aside0.mk (blk_below (g := qf) (o := .cells #[.bool a0_0, .slice A0_1 l0_1.length c0_1, .slice A0_2 l0_2.length c0_2] 25 (0, 0)) (by exact qc.out) hb)
   have n2_ := Aside0.mk (below_step (by repeat (((with_reducible (exact HB.out))))) hb)
   clear qc HB
   have qu := n0_
   have qc := n1_
   have HB := n2_
   clear n0_ n1_ n2_
   (try clear hb)
   (try clear ho0)
   refine hK.out _ _ ⟨(blk_cell qc.out 0).trans rfl, (blk_cell qc.out 1).trans rfl, (blk_cell qc.out 2).trans rfl⟩ (fun hHeld => ?_)
   clear hK K
   refine norm_ (a' := ?_) ?_ ?_
   rotate_left
   ·show Act.put _ (some 12) _ = _
    simp only [Act.put, List.setIfInBounds_toArray, List.set_cons_zero, List.set_cons_succ, i64_w, i32_w]
    rfl
   refine one_ (i := 3) (N := some 14) #[true, true, true, true, false, false] rfl rfl (by kernel_rfl) (by decide) (fun K hK => ?_)
   refine goes_ Try.func20 (by kernel_rfl) rfl #[.agg #[.bool a0_0, .slice A0_1 l0_1.length c0_1, .slice A0_2 l0_2.length c0_2]] (by rfl) rfl rfl (by (try simp only [List.map_toArray, List.map_cons, List.map_nil]); (rfl)) ?_
   with_reducible refine (coppiceref06_Split.calls k a0_0 _ _ l0_1 _ _ l0_2 qe _ ?side1 ?side2 ?side3 ?side4 A11.out).mono ?_
   (case side1 => repeat ((exact (Kd.C_below HR0_1.out HB.out))))
   (case side2 => exact HC0_1.out)
   (case side3 => repeat ((exact (Kd.C_below HR0_2.out HB.out))))
   (case side4 => exact HC0_2.out)
   rintro e w19 ⟨qao, rfl, ho0, hb⟩
   refine ⟨_, rfl, ?_⟩
   have n0_ := Aside0.mk (Kd.S_elder' (by exact qu.out) (Kd.S_base ho0) hb)
   have n1_ := Aside0.mk (Kd.S_lower (Kd.S_newB (Kd.S_new' ho0 (Kd.S_lt (by exact qu.out))) (g := qf) (o := .cells #[.bool a0_0, .slice A0_1 l0_1.length c0_1, .slice A0_2 l0_2.length c0_2] 25 (0, 0)) (by exact qc.out)) (below_size (by repeat (((with_reducible (exact HB.out)))))))
   have n2_ := Aside0.mk (blk_below (g := qf) (o := .cells #[.bool a0_0, .slice A0_1 l0_1.length c0_1, .slice A0_2 l0_2.length c0_2] 25 (0, 0)) (by exact qc.out) hb)
   have n3_ := Aside0.mk (below_step (by repeat (((with_reducible (exact HB.out))))) hb)
   clear qu qc HB
   have qu := n0_
   have qw := n1_
   have qc := n2_
   have HB := n3_
   clear n0_ n1_ n2_ n3_
   (try clear hb)
   (try clear ho0)
   refine hK.out _ _ ⟨(blk_cell qc.out 0).trans rfl, (blk_cell qc.out 1).trans rfl, (blk_cell qc.out 2).trans rfl⟩ (fun hHeld => ?_)
   clear hK K
   refine norm_ (a' := ?_) ?_ ?_
   rotate_left
   ·show Act.put _ (some 14) _ = _
    simp only [Act.put, List.setIfInBounds_toArray, List.set_cons_zero, List.set_cons_succ, i64_w, i32_w]
    rfl
   refine pure_ (i := 4) (N := some 3) (v := ?_) (a' := ?_) #[true, true, true, true, true, false] rfl rfl (by kernel_rfl) (fun _ _ _ h => h) (Or.inl ⟨by rfl, ?_⟩) ?_ ?_
   rotate_left
   ·intro w'
    go_simp
    with_reducible rfl
   rotate_left
   ·simp only [Act.put, List.setIfInBounds_toArray, List.set_cons_zero, List.set_cons_succ, i64_w, i32_w]
    rfl
   refine pure_ (i := 5) (N := some 4) (v := ?_) (a' := ?_) #[true, true, true, true, true, true] rfl rfl (by kernel_rfl) (fun _ _ _ h => h) (Or.inl ⟨by rfl, ?_⟩) ?_ ?_
   rotate_left
   ·intro w'
    go_simp
    with_reducible rfl
   rotate_left
   ·simp only [Act.put, List.setIfInBounds_toArray, List.set_cons_zero, List.set_cons_succ, i64_w, i32_w]
    rfl
   refine done_ (by kernel_rfl) ?_
   go_upto_region 6 with (fail)
   go_cut [37] (fun v37 wc => ∃ (kq : Nat) (qag : Bool), v37 = .bool qag ∧ Aside0 (coppicelaw06_NodeSplits.j0 kq qb qe qag a0_0 l0_1 l0_2 = some r) ∧ Aside0 (kq ≤ k) ∧ Aside0 (Kd.S k25 25 wc w.heap.size (fun k_ => some k_ ≠ (qao : Value).ownBlock ∧ k_ ≠ qf) qam qb) ∧ Aside0 (Kd.S k25 25 wc w.heap.size (fun k_ => some k_ ≠ (qam : Value).ownBlock ∧ k_ ≠ qf) qao qe) ∧ Aside0 (wc.heap[qf]? = some (.cells #[.bool a0_0, (.slice A0_1 l0_1.length c0_1), (.slice A0_2 l0_2.length c0_2)] 25 (0, 0))) ∧ Aside0 (Below w.heap.size w wc))
   case first =>
    have H := qar.out
    clear qar
    by_cases c20 : (qb.length : Int) = (qe.length : Int)
    ·rw [if_pos c20] at H
     have c20b0 : ((qb.length : Int) == (qe.length : Int)) = true := beq_iff_eq.mpr c20
     have c20b1 : ((qb.length : Int) != (qe.length : Int)) = false := bne_eq_false_iff_eq.mpr c20
     have c20b2 : (qb.length == qe.length) = true := by ((simp at c20 ⊢; omega))
     clear c20
     ((skip))
     replace H := Option.bind_eq_some_iff.mp H
     obtain ⟨qs, A210, H⟩ := H
     replace H : (if (((qb.length : Int) == 1) != (qs == 0)) = true then (coppicelaw06_NodeSplits.j0 k qb qe true a0_0 l0_1 l0_2) else ((node_Check.f a0_0 l0_1 l0_2).bind fun qv => (coppicelaw06_NodeSplits.j0 k qb qe (((qb.length : Int) == 0) != (qv == 60)) a0_0 l0_1 l0_2))) = some r := H
     have A21 := Aside0.mk A210
     clear A210
     by_cases c22 : (((qb.length : Int) == 1) != (qs == 0)) = true
     ·rw [if_pos c22] at H
      have c22b0 : (((qb.length : Int) == 1) != (qs == 0)) = true := c22
      (try (have c22b1 : decide (((qb.length : Int) == 1) = (qs == 0)) = false := by simpa using c22))
      (try (have c22b2 : (((qb.length : Int) == 1) == (qs == 0)) = false := by simpa using c22))
      (try (have c22b3 : ¬ (((qb.length : Int) == 1) = (qs == 0)) := by simpa using c22))
      clear c22
      have H' := Aside0.mk H
      clear H
      obtain ⟨qda, qdc, qbc⟩ := Kd.S_slice qu.out
      subst qbc
      obtain ⟨qct, qcr, qbh⟩ := Kd.S_slice qw.out
      subst qbh
      have hcz25_0 : w19.cell? ⟨qf, 0, none⟩ = some (.bool a0_0) := (blk_cell qc.out 0).trans rfl
      have hcz25_1 : w19.cell? ⟨qf, 1, none⟩ = some (.slice A0_1 l0_1.length c0_1) := (blk_cell qc.out 1).trans rfl
      have hcz25_2 : w19.cell? ⟨qf, 2, none⟩ = some (.slice A0_2 l0_2.length c0_2) := (blk_cell qc.out 2).trans rfl
      have hfz25_0 := blk_frozen qc.out 0
      have hfz25_1 := blk_frozen qc.out 1
      have hfz25_2 := blk_frozen qc.out 2
      go_wp2_with (first | (go_at_call 13; (with_reducible refine (node_Check.calls a0_0 _ _ l0_1 _ _ l0_2 qs _ ?side1 ?side2 ?side3 ?side4 A21.out).mono ?_); (case side1 => repeat ((exact (Kd.C_below HR0_1.out HB.out)))); (case side2 => exact HC0_1.out); (case side3 => repeat ((exact (Kd.C_below HR0_2.out HB.out)))); (case side4 => exact HC0_2.out); rintro e w26 ⟨rfl, hb⟩; have n0_ := Aside0.mk (Kd.S_below (by exact qu.out) hb); have n1_ := Aside0.mk (Kd.S_below (by exact qw.out) hb); have n2_ := Aside0.mk (blk_below (g := qf) (o := .cells #[.bool a0_0, .slice A0_1 l0_1.length c0_1, .slice A0_2 l0_2.length c0_2] 25 (0, 0)) (by exact qc.out) hb); have n3_ := Aside0.mk (below_step (by repeat (((with_reducible (exact HB.out))))) hb); clear qu; clear qw; clear qc; clear HB; have qu := n0_; have qw := n1_; have qc := n2_; have HB := n3_; clear n0_ n1_ n2_ n3_; (try clear hb); (try clear hb2); (try clear hk); (try clear hi)))
      go_meet
      case rel => exact ⟨_, (true), (by (rfl)), H', ⟨by (omega)⟩, ⟨by exact Kd.S_mono qu.out (fun _ hk => ⟨hk.2, hk.1.2⟩)⟩, ⟨by exact Kd.S_mono qw.out (fun _ hk => ⟨hk.1.2, hk.2⟩)⟩, ⟨by exact qc.out⟩, ⟨by repeat (((with_reducible (exact HB.out))))⟩⟩
     ·rw [if_neg c22] at H
      have c22b0 : (((qb.length : Int) == 1) != (qs == 0)) = false := by simpa using c22
      (try (have c22b1 : decide (((qb.length : Int) == 1) = (qs == 0)) = true := by simpa using c22))
      (try (have c22b2 : (((qb.length : Int) == 1) == (qs == 0)) = true := by simpa using c22))
      clear c22
      replace H := Option.bind_eq_some_iff.mp H
      obtain ⟨qv, A270, H⟩ := H
      have E_t255 : qv = qs := Option.some.inj (A270.symm.trans A21.out)
      replace H : (coppicelaw06_NodeSplits.j0 k qb qe (((qb.length : Int) == 0) != (qv == 60)) a0_0 l0_1 l0_2) = some r := H
      have A27 := Aside0.mk A270
      clear A270
      have H' := Aside0.mk H
      clear H
      obtain ⟨qcv, qck, qbb⟩ := Kd.S_slice qu.out
      subst qbb
      obtain ⟨qco, qcc, qbd⟩ := Kd.S_slice qw.out
      subst qbd
      have hcz30_0 : w19.cell? ⟨qf, 0, none⟩ = some (.bool a0_0) := (blk_cell qc.out 0).trans rfl
      have hcz30_1 : w19.cell? ⟨qf, 1, none⟩ = some (.slice A0_1 l0_1.length c0_1) := (blk_cell qc.out 1).trans rfl
      have hcz30_2 : w19.cell? ⟨qf, 2, none⟩ = some (.slice A0_2 l0_2.length c0_2) := (blk_cell qc.out 2).trans rfl
      have hfz30_0 := blk_frozen qc.out 0
      have hfz30_1 := blk_frozen qc.out 1
      have hfz30_2 := blk_frozen qc.out 2
      go_wp2_with (((go_at_call 13; (with_reducible refine (node_Check.calls a0_0 _ _ l0_1 _ _ l0_2 qs _ ?side1 ?side2 ?side3 ?side4 A21.out).mono ?_); (case side1 => repeat ((exact (Kd.C_below HR0_1.out HB.out)))); (case side2 => exact HC0_1.out); (case side3 => repeat ((exact (Kd.C_below HR0_2.out HB.out)))); (case side4 => exact HC0_2.out); rintro e w31 ⟨rfl, hb⟩; have n0_ := Aside0.mk (Kd.S_below (by exact qu.out) hb); have n1_ := Aside0.mk (Kd.S_below (by exact qw.out) hb); have n2_ := Aside0.mk (blk_below (g := qf) (o := .cells #[.bool a0_0, .slice A0_1 l0_1.length c0_1, .slice A0_2 l0_2.length c0_2] 25 (0, 0)) (by exact qc.out) hb); have n3_ := Aside0.mk (below_step (by repeat (((with_reducible (exact HB.out))))) hb); clear qu; clear qw; clear qc; clear HB; have qu := n0_; have qw := n1_; have qc := n2_; have HB := n3_; clear n0_ n1_ n2_ n3_; (try clear hb); (try clear hb2); (try clear hk); (try clear hi); have hcz32_0 : w31.cell? ⟨qf, 0, none⟩ = some (.bool a0_0) := (blk_cell qc.out 0).trans rfl; have hcz32_1 : w31.cell? ⟨qf, 1, none⟩ = some (.slice A0_1 l0_1.length c0_1) := (blk_cell qc.out 1).trans rfl; have hcz32_2 : w31.cell? ⟨qf, 2, none⟩ = some (.slice A0_2 l0_2.length c0_2) := (blk_cell qc.out 2).trans rfl; have hfz32_0 := blk_frozen qc.out 0; have hfz32_1 := blk_frozen qc.out 1; have hfz32_2 := blk_frozen qc.out 2)))
      go_meet
      case rel => exact ⟨_, ((((qb.length : Int) == 0) != (qv == 60))), (by ((rw [E_t255]; rfl))), H', ⟨by (omega)⟩, ⟨by exact Kd.S_mono qu.out (fun _ hk => ⟨hk.2, hk.1.2⟩)⟩, ⟨by exact Kd.S_mono qw.out (fun _ hk => ⟨hk.1.2, hk.2⟩)⟩, ⟨by exact qc.out⟩, ⟨by repeat (((with_reducible (exact HB.out))))⟩⟩
    ·rw [if_neg c20] at H
     have c20b0 : ((qb.length : Int) == (qe.length : Int)) = false := beq_eq_false_iff_ne.mpr c20
     have c20b1 : ((qb.length : Int) != (qe.length : Int)) = true := bne_iff_ne.mpr c20
     have c20b2 : (qb.length == qe.length) = false := by ((simp at c20 ⊢; omega))
     ((skip))
     have H' := Aside0.mk H
     clear H
     obtain ⟨qcj, qci, qbu⟩ := Kd.S_slice qu.out
     subst qbu
     obtain ⟨qdb, qcs, qba⟩ := Kd.S_slice qw.out
     subst qba
     go_wp2
     go_meet
     case rel => exact ⟨_, (true), (by (rfl)), H', ⟨by (omega)⟩, ⟨by exact Kd.S_mono qu.out (fun _ hk => ⟨hk.2, hk.1.2⟩)⟩, ⟨by exact Kd.S_mono qw.out (fun _ hk => ⟨hk.1.2, hk.2⟩)⟩, ⟨by exact qc.out⟩, ⟨by repeat (((with_reducible (exact HB.out))))⟩⟩
   case rest =>
    clear qar
    try clear c1
    try clear c2
    try clear p2
    try clear c3
    try clear c5
    try clear c9
    try clear c10
    try clear c19
    try clear c20
    try clear c20b0
    try clear c20b1
    try clear c20b2
    try clear c22
    try clear c22b0
    try clear c22b1
    try clear c22b2
    try clear hcz15_0
    try clear hcz15_1
    try clear hcz15_2
    try clear hcz25_0
    try clear hcz25_1
    try clear hcz25_2
    try clear hcz30_0
    try clear hcz30_1
    try clear hcz30_2
    try clear hcz32_0
    try clear hcz32_1
    try clear hcz32_2
    try clear hcz8_0
    try clear hcz8_1
    try clear hcz8_2
    try clear hfz15_0
    try clear hfz15_1
    try clear hfz15_2
    try clear hfz25_0
    try clear hfz25_1
    try clear hfz25_2
    try clear hfz30_0
    try clear hfz30_1
    try clear hfz30_2
    try clear hfz32_0
    try clear hfz32_1
    try clear hfz32_2
    try clear hfz8_0
    try clear hfz8_1
    try clear hfz8_2
    obtain ⟨kq, qag, rfl, HA, HJ11, HO_3, HO_4, qc, HB⟩ := hcut
    cases kq with
    | zero => exact absurd HA.out (by simp [coppicelaw06_NodeSplits.j0])
    | succ kj11 =>
     have H := HA.out
     clear HA
     simp only [coppicelaw06_NodeSplits.j0] at H
     by_cases c36 : qag = true
     ·subst c36
      have H1 : (some false) = some r := by rw [if_pos rfl] at H; exact H
      clear H
      have H := H1
      clear H1
      obtain rfl := Option.some.inj H
      go_wp2
      go_ret
      exact ⟨by (rfl), by repeat (((with_reducible (exact HB.out))))⟩
     ·replace c36 := Bool.eq_false_iff.mpr c36
      subst c36
      have H1 : (coppicelaw06_NodeSplits.l0 kj11 qb qe 0 a0_0 l0_1 l0_2 a0_0 ([] : List (S44)) ([] : List (S46))) = some r := by rw [if_neg (show ¬ (false = true) by decide)] at H; exact H
      clear H
      have H := H1
      clear H1
      have H' := Aside0.mk H
      clear H
      have hcz37_0 : wc.cell? ⟨qf, 0, none⟩ = some (.bool a0_0) := (blk_cell qc.out 0).trans rfl
      have hcz37_1 : wc.cell? ⟨qf, 1, none⟩ = some (.slice A0_1 l0_1.length c0_1) := (blk_cell qc.out 1).trans rfl
      have hcz37_2 : wc.cell? ⟨qf, 2, none⟩ = some (.slice A0_2 l0_2.length c0_2) := (blk_cell qc.out 2).trans rfl
      have hfz37_0 := blk_frozen qc.out 0
      have hfz37_1 := blk_frozen qc.out 1
      have hfz37_2 := blk_frozen qc.out 2
      go_wp2_with (first | ((with_reducible refine gate_dst (N := 5) rfl ?_); (try (refine gate_guard (by rfl) ?_; dsimp only)); refine box_event ?hg (N := 5) ?hd (cs := #[.bool false, .slice none 0 0, .slice none 0 0]) (t := 25) ?hr ?_; (case hd => rfl); (case hg => rfl); (case hr => ((go_simp; done))); intro qd hg w38 hbox hb; have n0_ := Aside0.mk (Kd.S_below (Kd.S_elderB (by exact HO_3.out) qd (Nat.le_of_eq hg.symm)) hb); have n1_ := Aside0.mk (Kd.S_below (Kd.S_elderB (by exact HO_4.out) qd (Nat.le_of_eq hg.symm)) hb); have n2_ := Aside0.mk (blk_below (g := qf) (o := .cells #[.bool a0_0, .slice A0_1 l0_1.length c0_1, .slice A0_2 l0_2.length c0_2] 25 (0, 0)) (by exact qc.out) hb); have n3_ := Aside0.mk (below_step (by repeat (((with_reducible (exact HB.out))))) hb); have n4_ := Aside0.mk (hbox); have n5_ := Aside0.mk ((by rw [hg]; exact (below_size (by repeat (((with_reducible (exact HB.out)))))) : w.heap.size ≤ qd)); have n6_ := Aside0.mk ((by rw [hg]; exact (below_size (by repeat (((with_reducible (exact HB.out)))))) : w.heap.size ≤ qd)); have n7_ := Aside0.mk ((by rw [hg]; exact Nat.ne_of_lt (blk_lt (g := qf) (o := .cells #[.bool a0_0, .slice A0_1 l0_1.length c0_1, .slice A0_2 l0_2.length c0_2] 25 (0, 0)) (by exact qc.out)) : qf ≠ qd)); have n8_ := Aside0.mk ((by rw [hg]; exact Nat.ne_of_gt (blk_lt (g := qf) (o := .cells #[.bool a0_0, .slice A0_1 l0_1.length c0_1, .slice A0_2 l0_2.length c0_2] 25 (0, 0)) (by exact qc.out)) : qd ≠ qf)); clear HO_3; clear HO_4; clear qc; clear HB; have HO_3 := n0_; have HO_4 := n1_; have qc := n2_; have HB := n3_; have qh := n4_; have GW256 := n5_; have qan := n6_; have qt := n7_; have qz := n8_; clear n0_ n1_ n2_ n3_ n4_ n5_ n6_ n7_ n8_; clear hb hbox hg; have hnb39 := qz.out; have hnc39 := qt.out; have hcz40_0 : w38.cell? ⟨qd, 0, none⟩ = some (.bool false) := (blk_cell qh.out 0).trans rfl; have hcz40_1 : w38.cell? ⟨qd, 1, none⟩ = some (.slice none 0 0) := (blk_cell qh.out 1).trans rfl; have hcz40_2 : w38.cell? ⟨qd, 2, none⟩ = some (.slice none 0 0) := (blk_cell qh.out 2).trans rfl; have hfz40_0 := blk_frozen qh.out 0; have hfz40_1 := blk_frozen qh.out 1; have hfz40_2 := blk_frozen qh.out 2))
      go_loopg [6] kj11 (fun kq v6 w' => ∃ (x6_2 : Int) (qo : List (S44)) (qn : List (S46)) (qr : Value) (qj : Value), v6 = .int .i64 x6_2 ∧ Aside0 (coppicelaw06_NodeSplits.l0 kq qb qe x6_2 a0_0 l0_1 l0_2 a0_0 qo qn = some r) ∧ Aside0 (kq ≤ kj11) ∧ Aside0 (Kd.S k25 25 w' w.heap.size (fun k_ => some k_ ≠ (qao : Value).ownBlock ∧ some k_ ≠ (qr : Value).ownBlock ∧ some k_ ≠ (qj : Value).ownBlock ∧ k_ ≠ qf ∧ k_ ≠ qd) qam qb) ∧ Aside0 (Kd.S k25 25 w' w.heap.size (fun k_ => some k_ ≠ (qam : Value).ownBlock ∧ some k_ ≠ (qr : Value).ownBlock ∧ some k_ ≠ (qj : Value).ownBlock ∧ k_ ≠ qf ∧ k_ ≠ qd) qao qe) ∧ Aside0 (Kd.R k44 44 w' w.heap.size (fun _ => True) qr qo) ∧ Aside0 (Kd.R k46 46 w' w.heap.size (fun _ => True) qj qn) ∧ Aside0 (w'.heap[qf]? = some (.cells #[.bool a0_0, (.slice A0_1 l0_1.length c0_1), (.slice A0_2 l0_2.length c0_2)] 25 (0, 0))) ∧ Aside0 (w'.heap[qd]? = some (.cells #[.bool a0_0, qr, qj] 25 (0, 0))) ∧ Aside0 (Below w.heap.size w w'))
      case atStart => exact ⟨(0), (([] : List (S44))), (([] : List (S46))), (.slice none 0 0), (.slice none 0 0), (by (rfl)), H', ⟨Nat.le_refl _⟩, ⟨by exact Kd.S_mono (Kd.S_far (p := ⟨qd, 2, none⟩) (Kd.S_far (p := ⟨qd, 1, none⟩) (Kd.S_far (p := ⟨qd, 0, none⟩) (Kd.S_mono HO_3.out (fun k_ hk => (⟨hk, hk.2⟩ : _ ∧ k_ ≠ qd))) (fun _ hk => hk.2) (.bool a0_0)) (fun _ hk => hk.2) (.slice none 0 0)) (fun _ hk => hk.2) (.slice none 0 0)) (fun _ hk => ⟨hk.1.1.1, ⟨(by simp [Value.ownBlock]), ⟨(by simp [Value.ownBlock]), ⟨hk.1.1.2, hk.1.2⟩⟩⟩⟩)⟩, ⟨by exact Kd.S_mono (Kd.S_far (p := ⟨qd, 2, none⟩) (Kd.S_far (p := ⟨qd, 1, none⟩) (Kd.S_far (p := ⟨qd, 0, none⟩) (Kd.S_mono HO_4.out (fun k_ hk => (⟨hk, hk.2⟩ : _ ∧ k_ ≠ qd))) (fun _ hk => hk.2) (.bool a0_0)) (fun _ hk => hk.2) (.slice none 0 0)) (fun _ hk => hk.2) (.slice none 0 0)) (fun _ hk => ⟨hk.1.1.1, ⟨(by simp [Value.ownBlock]), ⟨(by simp [Value.ownBlock]), ⟨hk.1.1.2, hk.1.2⟩⟩⟩⟩)⟩, ⟨by (exact Kd.R_nil _ _ _ _ _)⟩, ⟨by (exact Kd.R_nil _ _ _ _ _)⟩, ⟨by refine blk_far ?_ qt.out _; refine blk_far ?_ qt.out _; refine blk_far ?_ qt.out _; exact qc.out⟩, ⟨by refine blk_put (cs := #[.bool a0_0, .slice none 0 0, .slice none 0 0]) ?_ 2 _ rfl; refine blk_put (cs := #[.bool a0_0, .slice none 0 0, .slice none 0 0]) ?_ 1 _ rfl; refine blk_put (cs := #[.bool false, .slice none 0 0, .slice none 0 0]) ?_ 0 _ rfl; exact qh.out⟩, ⟨by repeat (((with_reducible first | exact HB.out | refine below_set ?_ qan.out)))⟩⟩
      case round =>
       clear H'
       try clear c1
       try clear c2
       try clear p2
       try clear c3
       try clear c5
       try clear c9
       try clear c10
       try clear c19
       try clear c20
       try clear c20b0
       try clear c20b1
       try clear c20b2
       try clear c22
       try clear c22b0
       try clear c22b1
       try clear c22b2
       try clear c36
       try clear c39
       try clear hcz15_0
       try clear hcz15_1
       try clear hcz15_2
       try clear hcz25_0
       try clear hcz25_1
       try clear hcz25_2
       try clear hcz30_0
       try clear hcz30_1
       try clear hcz30_2
       try clear hcz32_0
       try clear hcz32_1
       try clear hcz32_2
       try clear hcz37_0
       try clear hcz37_1
       try clear hcz37_2
       try clear hcz40_0
       try clear hcz40_1
       try clear hcz40_2
       try clear hcz8_0
       try clear hcz8_1
       try clear hcz8_2
       try clear hfz15_0
       try clear hfz15_1
       try clear hfz15_2
       try clear hfz25_0
       try clear hfz25_1
       try clear hfz25_2
       try clear hfz30_0
       try clear hfz30_1
       try clear hfz30_2
       try clear hfz32_0
       try clear hfz32_1
       try clear hfz32_2
       try clear hfz37_0
       try clear hfz37_1
       try clear hfz37_2
       try clear hfz40_0
       try clear hfz40_1
       try clear hfz40_2
       try clear hfz8_0
       try clear hfz8_1
       try clear hfz8_2
       try clear p2
       obtain ⟨x6_2, qo, qn, qr, qj, rfl, HA, HK2, HO_3, HO_4, qi, qg, qc, qh, HB⟩ := hrel
       cases gk with
       | zero => exact absurd HA.out (by simp [coppicelaw06_NodeSplits.l0])
       | succ k2 =>
        have H := HA.out
        clear HA
        simp only [coppicelaw06_NodeSplits.l0] at H
        by_cases c41 : x6_2 < (qb.length : Int)
        ·rw [if_pos c41] at H
         have c41b0 : decide (x6_2 < (qb.length : Int)) = true := decide_eq_true c41
         clear c41
         by_cases c42 : 0 ≤ x6_2
         ·rw [if_pos c42] at H
          have c42b0 : decide (0 ≤ x6_2) = true := decide_eq_true c42
          clear c42
          by_cases c43 : x6_2 < (qe.length : Int)
          ·rw [if_pos c43] at H
           have c43b0 : decide (x6_2 < (qe.length : Int)) = true := decide_eq_true c43
           clear c43
           replace H := Option.bind_eq_some_iff.mp H
           obtain ⟨qau, A440, H⟩ := H
           replace H : (if qau = true then ((node_Check.f ((rd_T25 qb x6_2).f0) ((rd_T25 qb x6_2).f1) ((rd_T25 qb x6_2).f2)).bind fun qy => (if qy = 0 then (if qo.length + ((rd_T25 qb x6_2).f1).length < 4398046511104 then (if qn.length + ((rd_T25 qb x6_2).f2).length < 5864062014805 then (coppicelaw06_NodeSplits.l0 k2 qb qe (wrap64 (x6_2 + 1)) a0_0 l0_1 l0_2 a0_0 (qo ++ ((rd_T25 qb x6_2).f1)) (qn ++ ((rd_T25 qb x6_2).f2))) else (none)) else (none)) else (some false))) else (some false)) = some r := H
           have A44 := Aside0.mk A440
           clear A440
           by_cases c45 : qau = true
           ·subst c45
            have H1 : ((node_Check.f ((rd_T25 qb x6_2).f0) ((rd_T25 qb x6_2).f1) ((rd_T25 qb x6_2).f2)).bind fun qy => (if qy = 0 then (if qo.length + ((rd_T25 qb x6_2).f1).length < 4398046511104 then (if qn.length + ((rd_T25 qb x6_2).f2).length < 5864062014805 then (coppicelaw06_NodeSplits.l0 k2 qb qe (wrap64 (x6_2 + 1)) a0_0 l0_1 l0_2 a0_0 (qo ++ ((rd_T25 qb x6_2).f1)) (qn ++ ((rd_T25 qb x6_2).f2))) else (none)) else (none)) else (some false))) = some r := by rw [if_pos rfl] at H; exact H
            clear H
            have H := H1
            clear H1
            replace H := Option.bind_eq_some_iff.mp H
            obtain ⟨qy, A460, H⟩ := H
            replace H : (if qy = 0 then (if qo.length + ((rd_T25 qb x6_2).f1).length < 4398046511104 then (if qn.length + ((rd_T25 qb x6_2).f2).length < 5864062014805 then (coppicelaw06_NodeSplits.l0 k2 qb qe (wrap64 (x6_2 + 1)) a0_0 l0_1 l0_2 a0_0 (qo ++ ((rd_T25 qb x6_2).f1)) (qn ++ ((rd_T25 qb x6_2).f2))) else (none)) else (none)) else (some false)) = some r := H
            have A46 := Aside0.mk A460
            clear A460
            by_cases c47 : qy = 0
            ·rw [if_pos c47] at H
             have c47b0 : (qy == 0) = true := beq_iff_eq.mpr c47
             have c47b1 : (qy != 0) = false := bne_eq_false_iff_eq.mpr c47
             clear c47
             by_cases c48 : qo.length + ((rd_T25 qb x6_2).f1).length < 4398046511104
             ·rw [if_pos c48] at H
              have qaz := Aside0.mk c48
              clear c48
              obtain ⟨qk, qaq⟩ : ∃ y_ : List (S44), y_ = (qo ++ ((rd_T25 qb x6_2).f1)) := ⟨_, rfl⟩
              replace H : (if qn.length + ((rd_T25 qb x6_2).f2).length < 5864062014805 then (coppicelaw06_NodeSplits.l0 k2 qb qe (wrap64 (x6_2 + 1)) a0_0 l0_1 l0_2 a0_0 qk (qn ++ ((rd_T25 qb x6_2).f2))) else (none)) = some r := by ((rw [qaq]; with_reducible exact H))
              have qay := Aside0.mk qaq
              clear qaq
              by_cases c49 : qn.length + ((rd_T25 qb x6_2).f2).length < 5864062014805
              ·rw [if_pos c49] at H
               have qax := Aside0.mk c49
               clear c49
               obtain ⟨qaf, qal⟩ : ∃ y_ : List (S46), y_ = (qn ++ ((rd_T25 qb x6_2).f2)) := ⟨_, rfl⟩
               replace H : (coppicelaw06_NodeSplits.l0 k2 qb qe (wrap64 (x6_2 + 1)) a0_0 l0_1 l0_2 a0_0 qk qaf) = some r := by ((rw [qal]; with_reducible exact H))
               have qaw := Aside0.mk qal
               clear qal
               have H' := Aside0.mk H
               clear H
               obtain ⟨qcq, qp, qbj⟩ := Kd.S_slice HO_3.out
               subst qbj
               try go_wp2
               have n0_ := Aside0.mk (Kd.S_drew HO_3.out)
               have n1_ := Aside0.mk (Kd.S_drew HO_4.out)
               have n2_ := Aside0.mk (Kd.R_drew qi.out)
               have n3_ := Aside0.mk (Kd.R_drew qg.out)
               have n4_ := Aside0.mk (blk_drew qc.out)
               have n5_ := Aside0.mk (blk_drew qh.out)
               have n6_ := Aside0.mk (below_drew1 HB.out)
               clear HO_3 HO_4 qi qg qc qh HB
               have HO_3 := n0_
               have HO_4 := n1_
               have qi := n2_
               have qg := n3_
               have qc := n4_
               have qh := n5_
               have HB := n6_
               clear n0_ n1_ n2_ n3_ n4_ n5_ n6_
               have p258 : 0 ≤ (x6_2 : Int) := of_decide_eq_true (by ((with_reducible assumption)))
               have q258 : x6_2 < (qb.length : Int) := of_decide_eq_true (by ((with_reducible assumption)))
               obtain ⟨ad258, A258_1, c258_1, A258_2, c258_2, e258, hx258_0, hx258_1, hx258_2, hl258_1, hi258_1, hl258_2, hi258_2⟩ := at_T25 (Kd.S_reads' HO_3.out).2.2 x6_2 p258 q258
               cases e258
               obtain ⟨ce258, hce258, hMe258, hcc258⟩ := Kd.S_get HO_3.out z25 x6_2 p258 (by (exact q258))
               obtain ⟨ve258_1, ve258_2, rfl, ge258_1, ge258_2⟩ := k25_openM hMe258
               have hv258_1 := hcc258 1 _ rfl
               rw [add_field _ _ 1 (by omega)] at hv258_1
               replace hv258_1 := Option.some.inj (hv258_1.symm.trans hx258_1)
               rw [hv258_1] at ge258_1
               have HL258_1 := Aside0.mk (show Kd.R k44 44 _ _ _ _ ((rd_T25 qb x6_2).f1) from ge258_1)
               clear hv258_1 ge258_1
               have hv258_2 := hcc258 2 _ rfl
               rw [add_field _ _ 2 (by omega)] at hv258_2
               replace hv258_2 := Option.some.inj (hv258_2.symm.trans hx258_2)
               rw [hv258_2] at ge258_2
               have HL258_2 := Aside0.mk (show Kd.R k46 46 _ _ _ _ ((rd_T25 qb x6_2).f2) from ge258_2)
               clear hv258_2 ge258_2 hcc258 hce258
               have HR258_1 := Aside0.mk hi258_1
               have qad := Aside0.mk hl258_1
               clear hi258_1 hl258_1
               have HR258_2 := Aside0.mk hi258_2
               have qab := Aside0.mk hl258_2
               clear hi258_2 hl258_2
               replace p258 := eq_true p258
               replace q258 := eq_true q258
               obtain ⟨qce, qq, qbt⟩ := Kd.S_slice HO_4.out
               ((subst qbt))
               have p259 : 0 ≤ (x6_2 : Int) := of_decide_eq_true (by ((with_reducible assumption)))
               have q259 : x6_2 < (qe.length : Int) := of_decide_eq_true (by ((with_reducible assumption)))
               obtain ⟨ad259, A259_1, c259_1, A259_2, c259_2, e259, hx259_0, hx259_1, hx259_2, hl259_1, hi259_1, hl259_2, hi259_2⟩ := at_T25 (Kd.S_reads' HO_4.out).2.2 x6_2 p259 q259
               cases e259
               obtain ⟨ce259, hce259, hMe259, hcc259⟩ := Kd.S_get HO_4.out z25 x6_2 p259 (by (exact q259))
               obtain ⟨ve259_1, ve259_2, rfl, ge259_1, ge259_2⟩ := k25_openM hMe259
               have hv259_1 := hcc259 1 _ rfl
               rw [add_field _ _ 1 (by omega)] at hv259_1
               replace hv259_1 := Option.some.inj (hv259_1.symm.trans hx259_1)
               rw [hv259_1] at ge259_1
               have HL259_1 := Aside0.mk (show Kd.R k44 44 _ _ _ _ ((rd_T25 qe x6_2).f1) from ge259_1)
               clear hv259_1 ge259_1
               have hv259_2 := hcc259 2 _ rfl
               rw [add_field _ _ 2 (by omega)] at hv259_2
               replace hv259_2 := Option.some.inj (hv259_2.symm.trans hx259_2)
               rw [hv259_2] at ge259_2
               have HL259_2 := Aside0.mk (show Kd.R k46 46 _ _ _ _ ((rd_T25 qe x6_2).f2) from ge259_2)
               clear hv259_2 ge259_2 hcc259 hce259
               have HR259_1 := Aside0.mk hi259_1
               have qaa := Aside0.mk hl259_1
               clear hi259_1 hl259_1
               have HR259_2 := Aside0.mk hi259_2
               have qac := Aside0.mk hl259_2
               clear hi259_2 hl259_2
               replace p259 := eq_true p259
               replace q259 := eq_true q259
               have p261 : 0 ≤ (x6_2 : Int) := of_decide_eq_true (by ((with_reducible assumption)))
               have q261 : x6_2 < (qb.length : Int) := of_decide_eq_true (by ((with_reducible assumption)))
               obtain ⟨ad261, A261_1, c261_1, A261_2, c261_2, e261, hx261_0, hx261_1, hx261_2, hl261_1, hi261_1, hl261_2, hi261_2⟩ := at_T25 (Kd.S_reads' HO_3.out).2.2 x6_2 p261 q261
               obtain rfl : ad258 = ad261 := (by injection e261)
               obtain ⟨rfl, rfl⟩ : A258_1 = A261_1 ∧ c258_1 = c261_1 := (by have e_ := Option.some.inj (hx258_1.symm.trans hx261_1); injection e_ with f1_ f2_ f3_; exact ⟨f1_, f3_⟩)
               obtain ⟨rfl, rfl⟩ : A258_2 = A261_2 ∧ c258_2 = c261_2 := (by have e_ := Option.some.inj (hx258_2.symm.trans hx261_2); injection e_ with f1_ f2_ f3_; exact ⟨f1_, f3_⟩)
               obtain ⟨ce261, hce261, hMe261, hcc261⟩ := Kd.S_get HO_3.out z25 x6_2 p261 (by (exact q261))
               obtain ⟨ve261_1, ve261_2, rfl, ge261_1, ge261_2⟩ := k25_openM hMe261
               have hv261_1 := hcc261 1 _ rfl
               rw [add_field _ _ 1 (by omega)] at hv261_1
               replace hv261_1 := Option.some.inj (hv261_1.symm.trans hx261_1)
               rw [hv261_1] at ge261_1
               have HL261_1 := Aside0.mk (show Kd.R k44 44 _ _ _ _ ((rd_T25 qb x6_2).f1) from ge261_1)
               clear hv261_1 ge261_1
               have hv261_2 := hcc261 2 _ rfl
               rw [add_field _ _ 2 (by omega)] at hv261_2
               replace hv261_2 := Option.some.inj (hv261_2.symm.trans hx261_2)
               rw [hv261_2] at ge261_2
               have HL261_2 := Aside0.mk (show Kd.R k46 46 _ _ _ _ ((rd_T25 qb x6_2).f2) from ge261_2)
               clear hv261_2 ge261_2 hcc261 hce261
               have HR261_1 := Aside0.mk hi261_1
               have qai := Aside0.mk hl261_1
               clear hi261_1 hl261_1
               have HR261_2 := Aside0.mk hi261_2
               have qah := Aside0.mk hl261_2
               clear hi261_2 hl261_2
               replace p261 := eq_true p261
               replace q261 := eq_true q261
               refine start_ (n := 18) (S := fun w' => w'.cell? (ad258.add ((x6_2).toNat * 3)) = some (.bool ((rd_T25 qb x6_2).f0)) ∧ w'.cell? ⟨(ad258.add ((x6_2).toNat * 3)).block, (ad258.add ((x6_2).toNat * 3)).off + 1, none⟩ = some (.slice A258_1 ((rd_T25 qb x6_2).f1).length c258_1) ∧ w'.cell? ⟨(ad258.add ((x6_2).toNat * 3)).block, (ad258.add ((x6_2).toNat * 3)).off + 2, none⟩ = some (.slice A258_2 ((rd_T25 qb x6_2).f2).length c258_2) ∧ w'.cell? (ad259.add ((x6_2).toNat * 3)) = some (.bool ((rd_T25 qe x6_2).f0)) ∧ w'.cell? ⟨(ad259.add ((x6_2).toNat * 3)).block, (ad259.add ((x6_2).toNat * 3)).off + 1, none⟩ = some (.slice A259_1 ((rd_T25 qe x6_2).f1).length c259_1) ∧ w'.cell? ⟨(ad259.add ((x6_2).toNat * 3)).block, (ad259.add ((x6_2).toNat * 3)).off + 2, none⟩ = some (.slice A259_2 ((rd_T25 qe x6_2).f2).length c259_2) ∧ w'.cell? (ad258.add ((x6_2).toNat * 3)) = some (.bool ((rd_T25 qb x6_2).f0)) ∧ w'.cell? ⟨(ad258.add ((x6_2).toNat * 3)).block, (ad258.add ((x6_2).toNat * 3)).off + 1, none⟩ = some (.slice A258_1 ((rd_T25 qb x6_2).f1).length c258_1) ∧ w'.cell? ⟨(ad258.add ((x6_2).toNat * 3)).block, (ad258.add ((x6_2).toNat * 3)).off + 2, none⟩ = some (.slice A258_2 ((rd_T25 qb x6_2).f2).length c258_2)) (ds := []) #[false, false, false, false, false, false, false, false, false, false, false, false, false, false, false, false, false, false] (by kernel_rfl) rfl rfl ⟨hx258_0, hx258_1, hx258_2, hx259_0, hx259_1, hx259_2, hx261_0, hx261_1, hx261_2⟩ (fun hHeld => ?_); refine with_tabW coppicelaw06_NodeSplits.tab12 coppicelaw06_NodeSplits.bits12 (fun HT_ HW_ => ?_)
               generalize wr.drew = w51 at HO_3 HO_4 qi qg qc qh HB HL258_1 HL258_2 HL259_1 HL259_2 HL261_1 HL261_2 HR258_1 HR258_2 HR259_1 HR259_2 HR261_1 HR261_2 hx258_0 hx258_1 hx258_2 hx259_0 hx259_1 hx259_2 hx261_0 hx261_1 hx261_2 hHeld ⊢
               refine pure_ (i := 0) (N := some 47) (v := ?_) (a' := ?_) #[true, false, false, false, false, false, false, false, false, false, false, false, false, false, false, false, false, false] rfl rfl (any_of HT_.out (by kernel_rfl)) (fun _ _ _ h => h) (Or.inl ⟨by rfl, ?_⟩) ?_ ?_
               rotate_left
               ·intro w'
                go_simp
                with_reducible rfl
               rotate_left
               ·simp only [Act.put, List.setIfInBounds_toArray, List.set_cons_zero, List.set_cons_succ, i64_w, i32_w]
                rfl
               refine pure_ (i := 1) (N := some 48) (v := ?_) (a' := ?_) #[true, true, false, false, false, false, false, false, false, false, false, false, false, false, false, false, false, false] rfl rfl (any_of HT_.out (by kernel_rfl)) (fun _ _ _ h => h) (Or.inl ⟨by rfl, ?_⟩) ?_ ?_
               rotate_left
               ·intro w'
                go_simp
                with_reducible rfl
               rotate_left
               ·simp only [Act.put, List.setIfInBounds_toArray, List.set_cons_zero, List.set_cons_succ, i64_w, i32_w]
                rfl
               refine pure_ (i := 2) (N := some 49) (v := ?_) (a' := ?_) #[true, true, true, false, false, false, false, false, false, false, false, false, false, false, false, false, false, false] rfl rfl (any_of HT_.out (by kernel_rfl)) (fun _ _ _ h => h) (Or.inl ⟨by rfl, ?_⟩) ?_ ?_
               rotate_left
               ·intro w'
                go_simp
                with_reducible rfl
               rotate_left
               ·simp only [Act.put, List.setIfInBounds_toArray, List.set_cons_zero, List.set_cons_succ, i64_w, i32_w]
                rfl
               refine pure_ (i := 4) (N := some 51) (v := ?_) (a' := ?_) #[true, true, true, false, true, false, false, false, false, false, false, false, false, false, false, false, false, false] rfl rfl (any_of HT_.out (by kernel_rfl)) (fun _ _ _ h => h) (Or.inl ⟨by rfl, ?_⟩) ?_ ?_
               rotate_left
               ·intro w'
                go_simp
                with_reducible rfl
               rotate_left
               ·simp only [Act.put, List.setIfInBounds_toArray, List.set_cons_zero, List.set_cons_succ, i64_w, i32_w]
                rfl
               refine pure_ (i := 5) (N := some 52) (v := ?_) (a' := ?_) #[true, true, true, false, true, true, false, false, false, false, false, false, false, false, false, false, false, false] rfl rfl (any_of HT_.out (by kernel_rfl)) (fun _ _ _ h => h) (Or.inl ⟨by rfl, ?_⟩) ?_ ?_
               rotate_left
               ·intro w'
                go_simp
                with_reducible rfl
               rotate_left
               ·simp only [Act.put, List.setIfInBounds_toArray, List.set_cons_zero, List.set_cons_succ, i64_w, i32_w]
                rfl
               refine pure_ (i := 6) (N := some 53) (v := ?_) (a' := ?_) #[true, true, true, false, true, true, true, false, false, false, false, false, false, false, false, false, false, false] rfl rfl (any_of HT_.out (by kernel_rfl)) (fun _ _ _ h => h) (Or.inl ⟨by rfl, ?_⟩) ?_ ?_
               rotate_left
               ·intro w'
                go_simp
                with_reducible rfl
               rotate_left
               ·simp only [Act.put, List.setIfInBounds_toArray, List.set_cons_zero, List.set_cons_succ, i64_w, i32_w]
                rfl
               refine take_ (i := 3) (N := some 50) (v := ?_) (a' := ?_) #[true, true, true, true, true, true, true, false, false, false, false, false, false, false, false, false, false, false] rfl rfl (take_ofW HT_.out HW_.out (by kernel_rfl)) (fun _ _ _ h => h) (Or.inl ⟨by rfl, ?_⟩) hHeld ?_ ?_
               rotate_left
               ·rintro w' ⟨s0, s1, s2, s3, s4, s5, s6, s7, s8⟩
                go_simp
                with_reducible rfl
               rotate_left
               ·simp only [Act.put, List.setIfInBounds_toArray, List.set_cons_zero, List.set_cons_succ, i64_w, i32_w]
                rfl
               refine take_ (i := 7) (N := some 54) (v := ?_) (a' := ?_) #[true, true, true, true, true, true, true, true, false, false, false, false, false, false, false, false, false, false] rfl rfl (take_ofW HT_.out HW_.out (by kernel_rfl)) (fun _ _ _ h => h) (Or.inl ⟨by rfl, ?_⟩) hHeld ?_ ?_
               rotate_left
               ·rintro w' ⟨s0, s1, s2, s3, s4, s5, s6, s7, s8⟩
                go_simp
                with_reducible rfl
               rotate_left
               ·simp only [Act.put, List.setIfInBounds_toArray, List.set_cons_zero, List.set_cons_succ, i64_w, i32_w]
                rfl
               refine one_ (i := 8) (N := some 55) #[true, true, true, true, true, true, true, true, true, false, false, false, false, false, false, false, false, false] rfl rfl (one_of HT_.out (by kernel_rfl)) (by decide) (fun K hK => ?_)
               refine goes_ Try.func21 (by kernel_rfl) rfl #[.agg #[.bool ((rd_T25 qb x6_2).f0), .slice A258_1 ((rd_T25 qb x6_2).f1).length c258_1, .slice A258_2 ((rd_T25 qb x6_2).f2).length c258_2], .agg #[.bool ((rd_T25 qe x6_2).f0), .slice A259_1 ((rd_T25 qe x6_2).f1).length c259_1, .slice A259_2 ((rd_T25 qe x6_2).f2).length c259_2]] (by rfl) rfl rfl (by (try simp only [List.map_toArray, List.map_cons, List.map_nil]); (rfl)) ?_
               with_reducible refine (coppiceref06_Same.calls k2 ((rd_T25 qb x6_2).f0) _ _ ((rd_T25 qb x6_2).f1) _ _ ((rd_T25 qb x6_2).f2) ((rd_T25 qe x6_2).f0) _ _ ((rd_T25 qe x6_2).f1) _ _ ((rd_T25 qe x6_2).f2) true _ ?side1 ?side2 ?side3 ?side4 ?side5 ?side6 ?side7 ?side8 A44.out).mono ?_
               (case side1 => repeat ((exact (by repeat (((with_reducible exact HR258_1.out)))))))
               (case side2 => exact qad.out)
               (case side3 => repeat ((exact (by repeat (((with_reducible exact HR258_2.out)))))))
               (case side4 => exact qab.out)
               (case side5 => repeat ((exact (by repeat (((with_reducible exact HR259_1.out)))))))
               (case side6 => exact qaa.out)
               (case side7 => repeat ((exact (by repeat (((with_reducible exact HR259_2.out)))))))
               (case side8 => exact qac.out)
               rintro e w53 ⟨rfl, hb⟩
               have m_ := Aside0.mk (Kd.R_below (by exact HL261_1.out) hb)
               clear HL261_1
               have HL261_1 := m_
               clear m_
               have m_ := Aside0.mk (Kd.C_below (by repeat (((with_reducible exact HR261_1.out)))) hb)
               clear HR261_1
               have HR261_1 := m_
               clear m_
               have m_ := Aside0.mk (Kd.R_below (by exact HL261_2.out) hb)
               clear HL261_2
               have HL261_2 := m_
               clear m_
               have m_ := Aside0.mk (Kd.C_below (by repeat (((with_reducible exact HR261_2.out)))) hb)
               clear HR261_2
               have HR261_2 := m_
               clear m_
               have HS0_ := (hb.cell (World.block_lt_of_cell? _ _ (hHeld.1))).trans (hHeld.1)
               have HS1_ := (hb.cell (World.block_lt_of_cell? _ _ (hHeld.2.1))).trans (hHeld.2.1)
               have HS2_ := (hb.cell (World.block_lt_of_cell? _ _ (hHeld.2.2.1))).trans (hHeld.2.2.1)
               have HS3_ := (hb.cell (World.block_lt_of_cell? _ _ (hHeld.2.2.2.1))).trans (hHeld.2.2.2.1)
               have HS4_ := (hb.cell (World.block_lt_of_cell? _ _ (hHeld.2.2.2.2.1))).trans (hHeld.2.2.2.2.1)
               have HS5_ := (hb.cell (World.block_lt_of_cell? _ _ (hHeld.2.2.2.2.2.1))).trans (hHeld.2.2.2.2.2.1)
               have HS6_ := (hb.cell (World.block_lt_of_cell? _ _ (hHeld.2.2.2.2.2.2.1))).trans (hHeld.2.2.2.2.2.2.1)
               have HS7_ := (hb.cell (World.block_lt_of_cell? _ _ (hHeld.2.2.2.2.2.2.2.1))).trans (hHeld.2.2.2.2.2.2.2.1)
               have HS8_ := (hb.cell (World.block_lt_of_cell? _ _ (hHeld.2.2.2.2.2.2.2.2))).trans (hHeld.2.2.2.2.2.2.2.2)
               refine ⟨_, rfl, ?_⟩
               have n0_ := Aside0.mk (Kd.S_below (by exact HO_3.out) hb)
               have n1_ := Aside0.mk (Kd.S_below (by exact HO_4.out) hb)
               have n2_ := Aside0.mk (Kd.R_below (by exact qi.out) hb)
               have n3_ := Aside0.mk (Kd.R_below (by exact qg.out) hb)
               have n4_ := Aside0.mk (Kd.R_below (by exact HL258_1.out) hb)
               have n5_ := Aside0.mk (Kd.R_below (by exact HL258_2.out) hb)
               have n6_ := Aside0.mk (Kd.R_below (by exact HL259_1.out) hb)
               have n7_ := Aside0.mk (Kd.R_below (by exact HL259_2.out) hb)
               have n8_ := Aside0.mk (blk_below (g := qf) (o := .cells #[.bool a0_0, .slice A0_1 l0_1.length c0_1, .slice A0_2 l0_2.length c0_2] 25 (0, 0)) (by exact qc.out) hb)
               have n9_ := Aside0.mk (blk_below (g := qd) (o := .cells #[.bool a0_0, qr, qj] 25 (0, 0)) (by exact qh.out) hb)
               have n10_ := Aside0.mk (Kd.C_below (by repeat (((with_reducible exact HR258_1.out)))) hb)
               have n11_ := Aside0.mk (Kd.C_below (by repeat (((with_reducible exact HR258_2.out)))) hb)
               have n12_ := Aside0.mk (Kd.C_below (by repeat (((with_reducible exact HR259_1.out)))) hb)
               have n13_ := Aside0.mk (Kd.C_below (by repeat (((with_reducible exact HR259_2.out)))) hb)
               have n14_ := Aside0.mk (below_step (by repeat (((with_reducible (exact HB.out))))) hb)
               clear HO_3 HO_4 qi qg HL258_1 HL258_2 HL259_1 HL259_2 qc qh HR258_1 HR258_2 HR259_1 HR259_2 HB
               have HO_3 := n0_
               have HO_4 := n1_
               have qi := n2_
               have qg := n3_
               have HL258_1 := n4_
               have HL258_2 := n5_
               have HL259_1 := n6_
               have HL259_2 := n7_
               have qc := n8_
               have qh := n9_
               have HR258_1 := n10_
               have HR258_2 := n11_
               have HR259_1 := n12_
               have HR259_2 := n13_
               have HB := n14_
               clear n0_ n1_ n2_ n3_ n4_ n5_ n6_ n7_ n8_ n9_ n10_ n11_ n12_ n13_ n14_
               (try clear hb)
               refine hK.out _ _ ⟨HS0_, HS1_, HS2_, HS3_, HS4_, HS5_, HS6_, HS7_, HS8_⟩ (fun hHeld => ?_)
               clear hK K
               refine norm_ (a' := ?_) ?_ ?_
               rotate_left
               ·show Act.put _ (some 55) _ = _
                simp only [Act.put, List.setIfInBounds_toArray, List.set_cons_zero, List.set_cons_succ, i64_w, i32_w]
                rfl
               refine pure_ (i := 9) (N := some 56) (v := ?_) (a' := ?_) #[true, true, true, true, true, true, true, true, true, true, false, false, false, false, false, false, false, false] rfl rfl (any_of HT_.out (by kernel_rfl)) (fun _ _ _ h => h) (Or.inl ⟨by rfl, ?_⟩) ?_ ?_
               rotate_left
               ·intro w'
                go_simp
                with_reducible rfl
               rotate_left
               ·simp only [Act.put, List.setIfInBounds_toArray, List.set_cons_zero, List.set_cons_succ, i64_w, i32_w]
                rfl
               refine pure_ (i := 10) (N := some 57) (v := ?_) (a' := ?_) #[true, true, true, true, true, true, true, true, true, true, true, false, false, false, false, false, false, false] rfl rfl (any_of HT_.out (by kernel_rfl)) (fun _ _ _ h => h) (Or.inl ⟨by rfl, ?_⟩) ?_ ?_
               rotate_left
               ·intro w'
                go_simp
                with_reducible rfl
               rotate_left
               ·simp only [Act.put, List.setIfInBounds_toArray, List.set_cons_zero, List.set_cons_succ, i64_w, i32_w]
                rfl
               refine pure_ (i := 11) (N := some 58) (v := ?_) (a' := ?_) #[true, true, true, true, true, true, true, true, true, true, true, true, false, false, false, false, false, false] rfl rfl (any_of HT_.out (by kernel_rfl)) (fun _ _ _ h => h) (Or.inl ⟨by rfl, ?_⟩) ?_ ?_
               rotate_left
               ·intro w'
                go_simp
                with_reducible rfl
               rotate_left
               ·simp only [Act.put, List.setIfInBounds_toArray, List.set_cons_zero, List.set_cons_succ, i64_w, i32_w]
                rfl
               refine pure_ (i := 12) (N := some 59) (v := ?_) (a' := ?_) #[true, true, true, true, true, true, true, true, true, true, true, true, true, false, false, false, false, false] rfl rfl (any_of HT_.out (by kernel_rfl)) (fun _ _ _ h => h) (Or.inl ⟨by rfl, ?_⟩) ?_ ?_
               rotate_left
               ·intro w'
                go_simp
                with_reducible rfl
               rotate_left
               ·simp only [Act.put, List.setIfInBounds_toArray, List.set_cons_zero, List.set_cons_succ, i64_w, i32_w]
                rfl
               refine pure_ (i := 13) (N := some 60) (v := ?_) (a' := ?_) #[true, true, true, true, true, true, true, true, true, true, true, true, true, true, false, false, false, false] rfl rfl (any_of HT_.out (by kernel_rfl)) (fun _ _ _ h => h) (Or.inl ⟨by rfl, ?_⟩) ?_ ?_
               rotate_left
               ·intro w'
                go_simp
                with_reducible rfl
               rotate_left
               ·simp only [Act.put, List.setIfInBounds_toArray, List.set_cons_zero, List.set_cons_succ, i64_w, i32_w]
                rfl
               refine take_ (i := 14) (N := some 61) (v := ?_) (a' := ?_) #[true, true, true, true, true, true, true, true, true, true, true, true, true, true, true, false, false, false] rfl rfl (take_ofW HT_.out HW_.out (by kernel_rfl)) (fun _ _ _ h => h) (Or.inl ⟨by rfl, ?_⟩) hHeld ?_ ?_
               rotate_left
               ·rintro w' ⟨s0, s1, s2, s3, s4, s5, s6, s7, s8⟩
                go_simp
                with_reducible rfl
               rotate_left
               ·simp only [Act.put, List.setIfInBounds_toArray, List.set_cons_zero, List.set_cons_succ, i64_w, i32_w]
                rfl
               refine one_ (i := 15) (N := some 62) #[true, true, true, true, true, true, true, true, true, true, true, true, true, true, true, true, false, false] rfl rfl (one_of HT_.out (by kernel_rfl)) (by decide) (fun K hK => ?_)
               refine goes_ Try.func13 (by kernel_rfl) rfl #[.agg #[.bool ((rd_T25 qb x6_2).f0), .slice A258_1 ((rd_T25 qb x6_2).f1).length c258_1, .slice A258_2 ((rd_T25 qb x6_2).f2).length c258_2]] (by rfl) rfl rfl (by (try simp only [List.map_toArray, List.map_cons, List.map_nil]); (rfl)) ?_
               with_reducible refine (node_Check.calls ((rd_T25 qb x6_2).f0) _ _ ((rd_T25 qb x6_2).f1) _ _ ((rd_T25 qb x6_2).f2) qy _ ?side1 ?side2 ?side3 ?side4 A46.out).mono ?_
               (case side1 => repeat ((exact (by repeat (((with_reducible exact HR261_1.out)))))))
               (case side2 => exact qai.out)
               (case side3 => repeat ((exact (by repeat (((with_reducible exact HR261_2.out)))))))
               (case side4 => exact qah.out)
               rintro e w54 ⟨rfl, hb⟩
               have HS0_ := (hb.cell (World.block_lt_of_cell? _ _ (hHeld.1))).trans (hHeld.1)
               have HS1_ := (hb.cell (World.block_lt_of_cell? _ _ (hHeld.2.1))).trans (hHeld.2.1)
               have HS2_ := (hb.cell (World.block_lt_of_cell? _ _ (hHeld.2.2.1))).trans (hHeld.2.2.1)
               have HS3_ := (hb.cell (World.block_lt_of_cell? _ _ (hHeld.2.2.2.1))).trans (hHeld.2.2.2.1)
               have HS4_ := (hb.cell (World.block_lt_of_cell? _ _ (hHeld.2.2.2.2.1))).trans (hHeld.2.2.2.2.1)
               have HS5_ := (hb.cell (World.block_lt_of_cell? _ _ (hHeld.2.2.2.2.2.1))).trans (hHeld.2.2.2.2.2.1)
               have HS6_ := (hb.cell (World.block_lt_of_cell? _ _ (hHeld.2.2.2.2.2.2.1))).trans (hHeld.2.2.2.2.2.2.1)
               have HS7_ := (hb.cell (World.block_lt_of_cell? _ _ (hHeld.2.2.2.2.2.2.2.1))).trans (hHeld.2.2.2.2.2.2.2.1)
               have HS8_ := (hb.cell (World.block_lt_of_cell? _ _ (hHeld.2.2.2.2.2.2.2.2))).trans (hHeld.2.2.2.2.2.2.2.2)
               refine ⟨_, rfl, ?_⟩
               have n0_ := Aside0.mk (Kd.S_below (by exact HO_3.out) hb)
               have n1_ := Aside0.mk (Kd.S_below (by exact HO_4.out) hb)
               have n2_ := Aside0.mk (Kd.R_below (by exact qi.out) hb)
               have n3_ := Aside0.mk (Kd.R_below (by exact qg.out) hb)
               have n4_ := Aside0.mk (Kd.R_below (by exact HL258_1.out) hb)
               have n5_ := Aside0.mk (Kd.R_below (by exact HL258_2.out) hb)
               have n6_ := Aside0.mk (Kd.R_below (by exact HL259_1.out) hb)
               have n7_ := Aside0.mk (Kd.R_below (by exact HL259_2.out) hb)
               have n8_ := Aside0.mk (Kd.R_below (by exact HL261_1.out) hb)
               have n9_ := Aside0.mk (Kd.R_below (by exact HL261_2.out) hb)
               have n10_ := Aside0.mk (blk_below (g := qf) (o := .cells #[.bool a0_0, .slice A0_1 l0_1.length c0_1, .slice A0_2 l0_2.length c0_2] 25 (0, 0)) (by exact qc.out) hb)
               have n11_ := Aside0.mk (blk_below (g := qd) (o := .cells #[.bool a0_0, qr, qj] 25 (0, 0)) (by exact qh.out) hb)
               have n12_ := Aside0.mk (Kd.C_below (by repeat (((with_reducible exact HR258_1.out)))) hb)
               have n13_ := Aside0.mk (Kd.C_below (by repeat (((with_reducible exact HR258_2.out)))) hb)
               have n14_ := Aside0.mk (Kd.C_below (by repeat (((with_reducible exact HR259_1.out)))) hb)
               have n15_ := Aside0.mk (Kd.C_below (by repeat (((with_reducible exact HR259_2.out)))) hb)
               have n16_ := Aside0.mk (Kd.C_below (by repeat (((with_reducible exact HR261_1.out)))) hb)
               have n17_ := Aside0.mk (Kd.C_below (by repeat (((with_reducible exact HR261_2.out)))) hb)
               have n18_ := Aside0.mk (below_step (by repeat (((with_reducible (exact HB.out))))) hb)
               clear HO_3 HO_4 qi qg HL258_1 HL258_2 HL259_1 HL259_2 HL261_1 HL261_2 qc qh HR258_1 HR258_2 HR259_1 HR259_2 HR261_1 HR261_2 HB
               have HO_3 := n0_
               have HO_4 := n1_
               have qi := n2_
               have qg := n3_
               have HL258_1 := n4_
               have HL258_2 := n5_
               have HL259_1 := n6_
               have HL259_2 := n7_
               have HL261_1 := n8_
               have HL261_2 := n9_
               have qc := n10_
               have qh := n11_
               have HR258_1 := n12_
               have HR258_2 := n13_
               have HR259_1 := n14_
               have HR259_2 := n15_
               have HR261_1 := n16_
               have HR261_2 := n17_
               have HB := n18_
               clear n0_ n1_ n2_ n3_ n4_ n5_ n6_ n7_ n8_ n9_ n10_ n11_ n12_ n13_ n14_ n15_ n16_ n17_ n18_
               (try clear hb)
               refine hK.out _ _ ⟨HS0_, HS1_, HS2_, HS3_, HS4_, HS5_, HS6_, HS7_, HS8_⟩ (fun hHeld => ?_)
               clear hK K
               refine norm_ (a' := ?_) ?_ ?_
               rotate_left
               ·show Act.put _ (some 62) _ = _
                simp only [Act.put, List.setIfInBounds_toArray, List.set_cons_zero, List.set_cons_succ, i64_w, i32_w]
                rfl
               refine pure_ (i := 16) (N := some 63) (v := ?_) (a' := ?_) #[true, true, true, true, true, true, true, true, true, true, true, true, true, true, true, true, true, false] rfl rfl (any_of HT_.out (by kernel_rfl)) (fun _ _ _ h => h) (Or.inl ⟨by rfl, ?_⟩) ?_ ?_
               rotate_left
               ·intro w'
                go_simp
                with_reducible rfl
               rotate_left
               ·simp only [Act.put, List.setIfInBounds_toArray, List.set_cons_zero, List.set_cons_succ, i64_w, i32_w]
                rfl
               refine pure_ (i := 17) (N := some 64) (v := ?_) (a' := ?_) #[true, true, true, true, true, true, true, true, true, true, true, true, true, true, true, true, true, true] rfl rfl (any_of HT_.out (by kernel_rfl)) (fun _ _ _ h => h) (Or.inl ⟨by rfl, ?_⟩) ?_ ?_
               rotate_left
               ·intro w'
                go_simp
                with_reducible rfl
               rotate_left
               ·simp only [Act.put, List.setIfInBounds_toArray, List.set_cons_zero, List.set_cons_succ, i64_w, i32_w]
                rfl
               refine done_ (done_of HT_.out (by kernel_rfl)) ?_
               try go_wp2
               have n0_ := Aside0.mk (Kd.S_drew HO_3.out)
               have n1_ := Aside0.mk (Kd.S_drew HO_4.out)
               have n2_ := Aside0.mk (Kd.R_drew qi.out)
               have n3_ := Aside0.mk (Kd.R_drew qg.out)
               have n4_ := Aside0.mk (Kd.R_drew HL258_1.out)
               have n5_ := Aside0.mk (Kd.R_drew HL258_2.out)
               have n6_ := Aside0.mk (Kd.R_drew HL259_1.out)
               have n7_ := Aside0.mk (Kd.R_drew HL259_2.out)
               have n8_ := Aside0.mk (Kd.R_drew HL261_1.out)
               have n9_ := Aside0.mk (Kd.R_drew HL261_2.out)
               have n10_ := Aside0.mk (blk_drew qc.out)
               have n11_ := Aside0.mk (blk_drew qh.out)
               have n12_ := Aside0.mk (Kd.C_drew HR258_1.out)
               have n13_ := Aside0.mk (Kd.C_drew HR258_2.out)
               have n14_ := Aside0.mk (Kd.C_drew HR259_1.out)
               have n15_ := Aside0.mk (Kd.C_drew HR259_2.out)
               have n16_ := Aside0.mk (Kd.C_drew HR261_1.out)
               have n17_ := Aside0.mk (Kd.C_drew HR261_2.out)
               have n18_ := Aside0.mk (below_drew1 HB.out)
               clear HO_3 HO_4 qi qg HL258_1 HL258_2 HL259_1 HL259_2 HL261_1 HL261_2 qc qh HR258_1 HR258_2 HR259_1 HR259_2 HR261_1 HR261_2 HB
               have HO_3 := n0_
               have HO_4 := n1_
               have qi := n2_
               have qg := n3_
               have HL258_1 := n4_
               have HL258_2 := n5_
               have HL259_1 := n6_
               have HL259_2 := n7_
               have HL261_1 := n8_
               have HL261_2 := n9_
               have qc := n10_
               have qh := n11_
               have HR258_1 := n12_
               have HR258_2 := n13_
               have HR259_1 := n14_
               have HR259_2 := n15_
               have HR261_1 := n16_
               have HR261_2 := n17_
               have HB := n18_
               clear n0_ n1_ n2_ n3_ n4_ n5_ n6_ n7_ n8_ n9_ n10_ n11_ n12_ n13_ n14_ n15_ n16_ n17_ n18_
               have p263 : 0 ≤ (x6_2 : Int) := of_decide_eq_true (by ((with_reducible assumption)))
               have q263 : x6_2 < (qb.length : Int) := of_decide_eq_true (by ((with_reducible assumption)))
               obtain ⟨ad263, A263_1, c263_1, A263_2, c263_2, e263, hx263_0, hx263_1, hx263_2, hl263_1, hi263_1, hl263_2, hi263_2⟩ := at_T25 (Kd.S_reads' HO_3.out).2.2 x6_2 p263 q263
               obtain rfl : ad258 = ad263 := (by injection e263)
               obtain ⟨ce263, hce263, hMe263, hcc263⟩ := Kd.S_get HO_3.out z25 x6_2 p263 (by (exact q263))
               obtain ⟨ve263_1, ve263_2, rfl, ge263_1, ge263_2⟩ := k25_openM hMe263
               have hv263_1 := hcc263 1 _ rfl
               rw [add_field _ _ 1 (by omega)] at hv263_1
               replace hv263_1 := Option.some.inj (hv263_1.symm.trans hx263_1)
               rw [hv263_1] at ge263_1
               have HL263_1 := Aside0.mk (show Kd.R k44 44 _ _ _ _ ((rd_T25 qb x6_2).f1) from ge263_1)
               clear hv263_1 ge263_1
               have hv263_2 := hcc263 2 _ rfl
               rw [add_field _ _ 2 (by omega)] at hv263_2
               replace hv263_2 := Option.some.inj (hv263_2.symm.trans hx263_2)
               rw [hv263_2] at ge263_2
               have HL263_2 := Aside0.mk (show Kd.R k46 46 _ _ _ _ ((rd_T25 qb x6_2).f2) from ge263_2)
               clear hv263_2 ge263_2 hcc263 hce263
               have HR263_1 := Aside0.mk hi263_1
               have qby := Aside0.mk hl263_1
               clear hi263_1 hl263_1
               have HR263_2 := Aside0.mk hi263_2
               have qbx := Aside0.mk hl263_2
               clear hi263_2 hl263_2
               replace p263 := eq_true p263
               replace q263 := eq_true q263
               refine start_ (n := 10) (S := fun w' => w'.cell? ⟨qd, 0, none⟩ = some (.bool a0_0) ∧ w'.cell? ⟨qd, 1, none⟩ = some (qr) ∧ w'.cell? ⟨qd, 2, none⟩ = some (qj) ∧ w'.cell? (ad258.add ((x6_2).toNat * 3)) = some (.bool ((rd_T25 qb x6_2).f0)) ∧ w'.cell? ⟨(ad258.add ((x6_2).toNat * 3)).block, (ad258.add ((x6_2).toNat * 3)).off + 1, none⟩ = some (.slice A263_1 ((rd_T25 qb x6_2).f1).length c263_1) ∧ w'.cell? ⟨(ad258.add ((x6_2).toNat * 3)).block, (ad258.add ((x6_2).toNat * 3)).off + 2, none⟩ = some (.slice A263_2 ((rd_T25 qb x6_2).f2).length c263_2)) (ds := [7, 9]) #[false, false, false, false, false, false, false, false, false, false] (by kernel_rfl) rfl rfl ⟨(blk_cell qh.out 0).trans rfl, (blk_cell qh.out 1).trans rfl, (blk_cell qh.out 2).trans rfl, hx263_0, hx263_1, hx263_2⟩ (fun hHeld => ?_); refine with_tabW coppicelaw06_NodeSplits.tab14 coppicelaw06_NodeSplits.bits14 (fun HT_ HW_ => ?_)
               generalize w54.drew = w55 at HO_3 HO_4 qi qg HL258_1 HL258_2 HL259_1 HL259_2 HL261_1 HL261_2 qc qh HR258_1 HR258_2 HR259_1 HR259_2 HR261_1 HR261_2 HB HL263_1 HL263_2 HR263_1 HR263_2 hx263_0 hx263_1 hx263_2 hHeld ⊢
               refine pure_ (i := 0) (N := some 65) (v := ?_) (a' := ?_) #[true, false, false, false, false, false, false, false, false, false] rfl rfl (any_of HT_.out (by kernel_rfl)) (fun _ _ _ h => h) (Or.inl ⟨by rfl, ?_⟩) ?_ ?_
               rotate_left
               ·intro w'
                go_simp
                with_reducible rfl
               rotate_left
               ·simp only [Act.put, List.setIfInBounds_toArray, List.set_cons_zero, List.set_cons_succ, i64_w, i32_w]
                rfl
               refine pure_ (i := 2) (N := some 67) (v := ?_) (a' := ?_) #[true, false, true, false, false, false, false, false, false, false] rfl rfl (any_of HT_.out (by kernel_rfl)) (fun _ _ _ h => h) (Or.inl ⟨by rfl, ?_⟩) ?_ ?_
               rotate_left
               ·intro w'
                go_simp
                with_reducible rfl
               rotate_left
               ·simp only [Act.put, List.setIfInBounds_toArray, List.set_cons_zero, List.set_cons_succ, i64_w, i32_w]
                rfl
               refine pure_ (i := 3) (N := some 68) (v := ?_) (a' := ?_) #[true, false, true, true, false, false, false, false, false, false] rfl rfl (any_of HT_.out (by kernel_rfl)) (fun _ _ _ h => h) (Or.inl ⟨by rfl, ?_⟩) ?_ ?_
               rotate_left
               ·intro w'
                go_simp
                with_reducible rfl
               rotate_left
               ·simp only [Act.put, List.setIfInBounds_toArray, List.set_cons_zero, List.set_cons_succ, i64_w, i32_w]
                rfl
               refine pure_ (i := 4) (N := some 69) (v := ?_) (a' := ?_) #[true, false, true, true, true, false, false, false, false, false] rfl rfl (any_of HT_.out (by kernel_rfl)) (fun _ _ _ h => h) (Or.inl ⟨by rfl, ?_⟩) ?_ ?_
               rotate_left
               ·intro w'
                go_simp
                with_reducible rfl
               rotate_left
               ·simp only [Act.put, List.setIfInBounds_toArray, List.set_cons_zero, List.set_cons_succ, i64_w, i32_w]
                rfl
               refine pure_ (i := 5) (N := some 70) (v := ?_) (a' := ?_) #[true, false, true, true, true, true, false, false, false, false] rfl rfl (any_of HT_.out (by kernel_rfl)) (fun _ _ _ h => h) (Or.inl ⟨by rfl, ?_⟩) ?_ ?_
               rotate_left
               ·intro w'
                go_simp
                with_reducible rfl
               rotate_left
               ·simp only [Act.put, List.setIfInBounds_toArray, List.set_cons_zero, List.set_cons_succ, i64_w, i32_w]
                rfl
               refine take_ (i := 1) (N := some 66) (v := ?_) (a' := ?_) #[true, true, true, true, true, true, false, false, false, false] rfl rfl (take_ofW HT_.out HW_.out (by kernel_rfl)) (fun _ _ _ h => h) (Or.inl ⟨by rfl, ?_⟩) hHeld ?_ ?_
               rotate_left
               ·rintro w' ⟨s0, s1, s2, s3, s4, s5⟩
                go_simp
                with_reducible rfl
               rotate_left
               ·simp only [Act.put, List.setIfInBounds_toArray, List.set_cons_zero, List.set_cons_succ, i64_w, i32_w]
                rfl
               refine take_ (i := 6) (N := some 71) (v := ?_) (a' := ?_) #[true, true, true, true, true, true, true, false, false, false] rfl rfl (take_ofW HT_.out HW_.out (by kernel_rfl)) (fun _ _ _ h => h) (Or.inl ⟨by rfl, ?_⟩) hHeld ?_ ?_
               rotate_left
               ·rintro w' ⟨s0, s1, s2, s3, s4, s5⟩
                go_simp
                with_reducible rfl
               rotate_left
               ·simp only [Act.put, List.setIfInBounds_toArray, List.set_cons_zero, List.set_cons_succ, i64_w, i32_w]
                rfl
               refine last_ (i := 7) (N := some 72) #[true, true, true, true, true, true, true, true, false, false] rfl rfl (one_of HT_.out (by kernel_rfl)) (by decide) (fun K hK => ?_)
               refine Kd.R_append_rows_step k44 (w0 := w) w.heap.size (by rfl) (.tmp 66) (.tmp 71) 22 44 (.agg #[(.string ⟨#[]⟩), (.string ⟨#[]⟩)]) 32 rfl Try.underlying22 info44 rfl (by decide) (by omega) qr qo ((rd_T25 qb x6_2).f1) _ _ _ (fun _ => True) (fun _ => False) rfl rfl ?aO ?aR (fun _ _ h => h) (fun _ h => h.elim) ?aF ?aB ?aS ?aL ?_
               (case aR => repeat ((exact (by repeat ((exact HR263_1.out))))))
               (case aB => exact (by repeat (((with_reducible (exact HB.out))))))
               (case aF => exact (fun _ _ => trivial))
               (case aO => exact (by exact qi.out))
               (case aS => exact (below_size (by repeat (((with_reducible (exact HB.out)))))))
               (case aL => have := qaz.out; omega)
               intro qch w56 ho hb hg hat
               rw [← qay.out] at ho
               have n0_ := Aside0.mk (Kd.S_after (ok := (fun k_ => some k_ ≠ (.slice (some ad259) qe.length qq : Value).ownBlock ∧ some k_ ≠ (qj : Value).ownBlock ∧ k_ ≠ qf ∧ k_ ≠ qd)) (by exact Kd.S_mono HO_3.out (fun _ hk => ⟨⟨hk.1, ⟨hk.2.2.1, ⟨hk.2.2.2.1, hk.2.2.2.2⟩⟩⟩, hk.2.1⟩)) hg hat)
               have n1_ := Aside0.mk (Kd.S_after (ok := (fun k_ => some k_ ≠ (.slice (some ad258) qb.length qp : Value).ownBlock ∧ some k_ ≠ (qj : Value).ownBlock ∧ k_ ≠ qf ∧ k_ ≠ qd)) (by exact Kd.S_mono HO_4.out (fun _ hk => ⟨⟨hk.1, ⟨hk.2.2.1, ⟨hk.2.2.2.1, hk.2.2.2.2⟩⟩⟩, hk.2.1⟩)) hg hat)
               have n2_ := Aside0.mk (Kd.R_over' (by exact qg.out) (Kd.R_typed (by exact qi.out)) (by decide) hg)
               have n3_ := Aside0.mk (blk_grown (g := qf) (o := .cells #[.bool a0_0, .slice A0_1 l0_1.length c0_1, .slice A0_2 l0_2.length c0_2] 25 (0, 0)) (by exact qc.out) hg (Kd.R_ne qi.out qc.out (by decide)))
               have n4_ := Aside0.mk (blk_grown (g := qd) (o := .cells #[.bool a0_0, qr, qj] 25 (0, 0)) (by exact qh.out) hg (Kd.R_ne qi.out qh.out (by decide)))
               have n5_ := Aside0.mk (Kd.R_after (ok := (fun k_ => some k_ ≠ (.slice (some ad258) qb.length qp : Value).ownBlock ∧ some k_ ≠ (.slice (some ad259) qe.length qq : Value).ownBlock ∧ some k_ ≠ (qj : Value).ownBlock ∧ k_ ≠ qf ∧ k_ ≠ qd)) (by exact Kd.R_mono HL258_1.out (fun _ hk => ⟨⟨hk.2, ⟨hk.1.1, ⟨hk.1.2.2.1, ⟨hk.1.2.2.2.1, hk.1.2.2.2.2⟩⟩⟩⟩, hk.1.2.1⟩)) hg hat)
               have n6_ := Aside0.mk (Kd.R_after (ok := (fun k_ => some k_ ≠ (.slice (some ad258) qb.length qp : Value).ownBlock ∧ some k_ ≠ (.slice (some ad259) qe.length qq : Value).ownBlock ∧ some k_ ≠ (qj : Value).ownBlock ∧ k_ ≠ qf ∧ k_ ≠ qd)) (by exact Kd.R_mono HL258_2.out (fun _ hk => ⟨⟨hk.2, ⟨hk.1.1, ⟨hk.1.2.2.1, ⟨hk.1.2.2.2.1, hk.1.2.2.2.2⟩⟩⟩⟩, hk.1.2.1⟩)) hg hat)
               have n7_ := Aside0.mk (Kd.R_after (ok := (fun k_ => some k_ ≠ (.slice (some ad258) qb.length qp : Value).ownBlock ∧ some k_ ≠ (.slice (some ad259) qe.length qq : Value).ownBlock ∧ some k_ ≠ (qj : Value).ownBlock ∧ k_ ≠ qf ∧ k_ ≠ qd)) (by exact Kd.R_mono HL259_1.out (fun _ hk => ⟨⟨hk.1.1, ⟨hk.2, ⟨hk.1.2.2.1, ⟨hk.1.2.2.2.1, hk.1.2.2.2.2⟩⟩⟩⟩, hk.1.2.1⟩)) hg hat)
               have n8_ := Aside0.mk (Kd.R_after (ok := (fun k_ => some k_ ≠ (.slice (some ad258) qb.length qp : Value).ownBlock ∧ some k_ ≠ (.slice (some ad259) qe.length qq : Value).ownBlock ∧ some k_ ≠ (qj : Value).ownBlock ∧ k_ ≠ qf ∧ k_ ≠ qd)) (by exact Kd.R_mono HL259_2.out (fun _ hk => ⟨⟨hk.1.1, ⟨hk.2, ⟨hk.1.2.2.1, ⟨hk.1.2.2.2.1, hk.1.2.2.2.2⟩⟩⟩⟩, hk.1.2.1⟩)) hg hat)
               have n9_ := Aside0.mk (Kd.R_after (ok := (fun k_ => some k_ ≠ (.slice (some ad258) qb.length qp : Value).ownBlock ∧ some k_ ≠ (.slice (some ad259) qe.length qq : Value).ownBlock ∧ some k_ ≠ (qj : Value).ownBlock ∧ k_ ≠ qf ∧ k_ ≠ qd)) (by exact Kd.R_mono HL261_1.out (fun _ hk => ⟨⟨hk.2, ⟨hk.1.1, ⟨hk.1.2.2.1, ⟨hk.1.2.2.2.1, hk.1.2.2.2.2⟩⟩⟩⟩, hk.1.2.1⟩)) hg hat)
               have n10_ := Aside0.mk (Kd.R_after (ok := (fun k_ => some k_ ≠ (.slice (some ad258) qb.length qp : Value).ownBlock ∧ some k_ ≠ (.slice (some ad259) qe.length qq : Value).ownBlock ∧ some k_ ≠ (qj : Value).ownBlock ∧ k_ ≠ qf ∧ k_ ≠ qd)) (by exact Kd.R_mono HL261_2.out (fun _ hk => ⟨⟨hk.2, ⟨hk.1.1, ⟨hk.1.2.2.1, ⟨hk.1.2.2.2.1, hk.1.2.2.2.2⟩⟩⟩⟩, hk.1.2.1⟩)) hg hat)
               have n11_ := Aside0.mk (Kd.R_after (ok := (fun k_ => some k_ ≠ (.slice (some ad258) qb.length qp : Value).ownBlock ∧ some k_ ≠ (.slice (some ad259) qe.length qq : Value).ownBlock ∧ some k_ ≠ (qj : Value).ownBlock ∧ k_ ≠ qf ∧ k_ ≠ qd)) (by exact Kd.R_mono HL263_1.out (fun _ hk => ⟨⟨hk.2, ⟨hk.1.1, ⟨hk.1.2.2.1, ⟨hk.1.2.2.2.1, hk.1.2.2.2.2⟩⟩⟩⟩, hk.1.2.1⟩)) hg hat)
               have n12_ := Aside0.mk (Kd.R_after (ok := (fun k_ => some k_ ≠ (.slice (some ad258) qb.length qp : Value).ownBlock ∧ some k_ ≠ (.slice (some ad259) qe.length qq : Value).ownBlock ∧ some k_ ≠ (qj : Value).ownBlock ∧ k_ ≠ qf ∧ k_ ≠ qd)) (by exact Kd.R_mono HL263_2.out (fun _ hk => ⟨⟨hk.2, ⟨hk.1.1, ⟨hk.1.2.2.1, ⟨hk.1.2.2.2.1, hk.1.2.2.2.2⟩⟩⟩⟩, hk.1.2.1⟩)) hg hat)
               have n13_ := Aside0.mk (hb)
               have n14_ := Aside0.mk (ho)
               clear HO_3 HO_4 qg qc qh HL258_1 HL258_2 HL259_1 HL259_2 HL261_1 HL261_2 HL263_1 HL263_2 HB qi
               have HO_3 := n0_
               have HO_4 := n1_
               have qg := n2_
               have qc := n3_
               have qh := n4_
               have HL258_1 := n5_
               have HL258_2 := n6_
               have HL259_1 := n7_
               have HL259_2 := n8_
               have HL261_1 := n9_
               have HL261_2 := n10_
               have HL263_1 := n11_
               have HL263_2 := n12_
               have HB := n13_
               have qx := n14_
               clear n0_ n1_ n2_ n3_ n4_ n5_ n6_ n7_ n8_ n9_ n10_ n11_ n12_ n13_ n14_ ho hb hg hat
               obtain ⟨qm, ql, qbo⟩ := Kd.R_slice qx.out
               ((subst qbo))
               refine hK.out _ _ ?_
               clear hK K
               refine norm_ (a' := ?_) ?_ ?_
               rotate_left
               ·show Act.put _ (some 72) _ = _
                simp only [Act.put, List.setIfInBounds_toArray, List.set_cons_zero, List.set_cons_succ, i64_w, i32_w]
                rfl
               refine pure_ (i := 8) (N := some 73) (v := ?_) (a' := ?_) #[true, true, true, true, true, true, true, true, true, false] rfl rfl (any_of HT_.out (by kernel_rfl)) (fun _ _ _ h => h) (Or.inl ⟨by rfl, ?_⟩) ?_ ?_
               rotate_left
               ·intro w'
                go_simp
                with_reducible rfl
               rotate_left
               ·simp only [Act.put, List.setIfInBounds_toArray, List.set_cons_zero, List.set_cons_succ, i64_w, i32_w]
                rfl
               refine last_ (i := 9) (N := none) #[true, true, true, true, true, true, true, true, true, true] rfl rfl (one_of HT_.out (by kernel_rfl)) (by decide) (fun K hK => ?_)
               have hs58 : w56.cell? ⟨qd, 1, none⟩ = some (qr) := (blk_cell qh.out 1).trans rfl
               have hfs58 := blk_frozen qh.out 1
               have hns58_0 := qt.out
               have hms58_0 := qz.out
               refine skip_ (w1 := ?_) (by rfl) rfl ?_ ?_
               rotate_left
               ·go_simp
                rfl
               refine hK.out _ _ ?_
               clear hK K
               refine done_ (done_of HT_.out (by kernel_rfl)) ?_
               try go_wp2
               have n0_ : Aside0 (Kd.S k25 25 (w56.setCell ⟨qd, 1, none⟩ (.slice qm qk.length ql)) w.heap.size (fun k_ => some k_ ≠ (.slice (some ad259) qe.length qq : Value).ownBlock ∧ some k_ ≠ (qj : Value).ownBlock ∧ some k_ ≠ (.slice qm qk.length ql : Value).ownBlock ∧ k_ ≠ qf ∧ k_ ≠ qd) (.slice (some ad258) qb.length qp) qb) := ⟨by exact Kd.S_mono (Kd.S_far (p := ⟨qd, 1, none⟩) (Kd.S_mono HO_3.out (fun k_ hk => (⟨hk, hk.1.2.2.2⟩ : _ ∧ k_ ≠ qd))) (fun _ hk => hk.2) (.slice qm qk.length ql)) (fun _ hk => ⟨hk.1.1.1, ⟨hk.1.1.2.1, ⟨hk.1.2, ⟨hk.1.1.2.2.1, hk.1.1.2.2.2⟩⟩⟩⟩)⟩
               have n1_ : Aside0 (Kd.S k25 25 (w56.setCell ⟨qd, 1, none⟩ (.slice qm qk.length ql)) w.heap.size (fun k_ => some k_ ≠ (.slice (some ad258) qb.length qp : Value).ownBlock ∧ some k_ ≠ (qj : Value).ownBlock ∧ some k_ ≠ (.slice qm qk.length ql : Value).ownBlock ∧ k_ ≠ qf ∧ k_ ≠ qd) (.slice (some ad259) qe.length qq) qe) := ⟨by exact Kd.S_mono (Kd.S_far (p := ⟨qd, 1, none⟩) (Kd.S_mono HO_4.out (fun k_ hk => (⟨hk, hk.1.2.2.2⟩ : _ ∧ k_ ≠ qd))) (fun _ hk => hk.2) (.slice qm qk.length ql)) (fun _ hk => ⟨hk.1.1.1, ⟨hk.1.1.2.1, ⟨hk.1.2, ⟨hk.1.1.2.2.1, hk.1.1.2.2.2⟩⟩⟩⟩)⟩
               have n2_ : Aside0 (Kd.R k46 46 (w56.setCell ⟨qd, 1, none⟩ (.slice qm qk.length ql)) w.heap.size (fun _ => True) qj qn) := ⟨by exact Kd.R_mono (Kd.R_far (p := ⟨qd, 1, none⟩) (Kd.R_types qg.out qh.out (by decide)) (fun _ hk => hk.2) (.slice qm qk.length ql)) (fun _ hk => trivial)⟩
               have n3_ : Aside0 (Kd.R k44 44 (w56.setCell ⟨qd, 1, none⟩ (.slice qm qk.length ql)) w.heap.size (fun k_ => some k_ ≠ (.slice (some ad258) qb.length qp : Value).ownBlock ∧ some k_ ≠ (.slice (some ad259) qe.length qq : Value).ownBlock ∧ some k_ ≠ (qj : Value).ownBlock ∧ some k_ ≠ (.slice qm qk.length ql : Value).ownBlock ∧ k_ ≠ qf ∧ k_ ≠ qd) (.slice A258_1 ((rd_T25 qb x6_2).f1).length c258_1) ((rd_T25 qb x6_2).f1)) := ⟨by exact Kd.R_mono (Kd.R_far (p := ⟨qd, 1, none⟩) (Kd.R_types HL258_1.out qh.out (by decide)) (fun _ hk => hk.2) (.slice qm qk.length ql)) (fun _ hk => ⟨hk.1.1.1, ⟨hk.1.1.2.1, ⟨hk.1.1.2.2.1, ⟨hk.1.2, ⟨hk.1.1.2.2.2.1, hk.1.1.2.2.2.2⟩⟩⟩⟩⟩)⟩
               have n4_ : Aside0 (Kd.R k46 46 (w56.setCell ⟨qd, 1, none⟩ (.slice qm qk.length ql)) w.heap.size (fun k_ => some k_ ≠ (.slice (some ad258) qb.length qp : Value).ownBlock ∧ some k_ ≠ (.slice (some ad259) qe.length qq : Value).ownBlock ∧ some k_ ≠ (qj : Value).ownBlock ∧ some k_ ≠ (.slice qm qk.length ql : Value).ownBlock ∧ k_ ≠ qf ∧ k_ ≠ qd) (.slice A258_2 ((rd_T25 qb x6_2).f2).length c258_2) ((rd_T25 qb x6_2).f2)) := ⟨by exact Kd.R_mono (Kd.R_far (p := ⟨qd, 1, none⟩) (Kd.R_types HL258_2.out qh.out (by decide)) (fun _ hk => hk.2) (.slice qm qk.length ql)) (fun _ hk => ⟨hk.1.1.1, ⟨hk.1.1.2.1, ⟨hk.1.1.2.2.1, ⟨hk.1.2, ⟨hk.1.1.2.2.2.1, hk.1.1.2.2.2.2⟩⟩⟩⟩⟩)⟩
               have n5_ : Aside0 (Kd.R k44 44 (w56.setCell ⟨qd, 1, none⟩ (.slice qm qk.length ql)) w.heap.size (fun k_ => some k_ ≠ (.slice (some ad258) qb.length qp : Value).ownBlock ∧ some k_ ≠ (.slice (some ad259) qe.length qq : Value).ownBlock ∧ some k_ ≠ (qj : Value).ownBlock ∧ some k_ ≠ (.slice qm qk.length ql : Value).ownBlock ∧ k_ ≠ qf ∧ k_ ≠ qd) (.slice A259_1 ((rd_T25 qe x6_2).f1).length c259_1) ((rd_T25 qe x6_2).f1)) := ⟨by exact Kd.R_mono (Kd.R_far (p := ⟨qd, 1, none⟩) (Kd.R_types HL259_1.out qh.out (by decide)) (fun _ hk => hk.2) (.slice qm qk.length ql)) (fun _ hk => ⟨hk.1.1.1, ⟨hk.1.1.2.1, ⟨hk.1.1.2.2.1, ⟨hk.1.2, ⟨hk.1.1.2.2.2.1, hk.1.1.2.2.2.2⟩⟩⟩⟩⟩)⟩
               have n6_ : Aside0 (Kd.R k46 46 (w56.setCell ⟨qd, 1, none⟩ (.slice qm qk.length ql)) w.heap.size (fun k_ => some k_ ≠ (.slice (some ad258) qb.length qp : Value).ownBlock ∧ some k_ ≠ (.slice (some ad259) qe.length qq : Value).ownBlock ∧ some k_ ≠ (qj : Value).ownBlock ∧ some k_ ≠ (.slice qm qk.length ql : Value).ownBlock ∧ k_ ≠ qf ∧ k_ ≠ qd) (.slice A259_2 ((rd_T25 qe x6_2).f2).length c259_2) ((rd_T25 qe x6_2).f2)) := ⟨by exact Kd.R_mono (Kd.R_far (p := ⟨qd, 1, none⟩) (Kd.R_types HL259_2.out qh.out (by decide)) (fun _ hk => hk.2) (.slice qm qk.length ql)) (fun _ hk => ⟨hk.1.1.1, ⟨hk.1.1.2.1, ⟨hk.1.1.2.2.1, ⟨hk.1.2, ⟨hk.1.1.2.2.2.1, hk.1.1.2.2.2.2⟩⟩⟩⟩⟩)⟩
               have n7_ : Aside0 (Kd.R k44 44 (w56.setCell ⟨qd, 1, none⟩ (.slice qm qk.length ql)) w.heap.size (fun k_ => some k_ ≠ (.slice (some ad258) qb.length qp : Value).ownBlock ∧ some k_ ≠ (.slice (some ad259) qe.length qq : Value).ownBlock ∧ some k_ ≠ (qj : Value).ownBlock ∧ some k_ ≠ (.slice qm qk.length ql : Value).ownBlock ∧ k_ ≠ qf ∧ k_ ≠ qd) (.slice A258_1 ((rd_T25 qb x6_2).f1).length c258_1) ((rd_T25 qb x6_2).f1)) := ⟨by exact Kd.R_mono (Kd.R_far (p := ⟨qd, 1, none⟩) (Kd.R_types HL261_1.out qh.out (by decide)) (fun _ hk => hk.2) (.slice qm qk.length ql)) (fun _ hk => ⟨hk.1.1.1, ⟨hk.1.1.2.1, ⟨hk.1.1.2.2.1, ⟨hk.1.2, ⟨hk.1.1.2.2.2.1, hk.1.1.2.2.2.2⟩⟩⟩⟩⟩)⟩
               have n8_ : Aside0 (Kd.R k46 46 (w56.setCell ⟨qd, 1, none⟩ (.slice qm qk.length ql)) w.heap.size (fun k_ => some k_ ≠ (.slice (some ad258) qb.length qp : Value).ownBlock ∧ some k_ ≠ (.slice (some ad259) qe.length qq : Value).ownBlock ∧ some k_ ≠ (qj : Value).ownBlock ∧ some k_ ≠ (.slice qm qk.length ql : Value).ownBlock ∧ k_ ≠ qf ∧ k_ ≠ qd) (.slice A258_2 ((rd_T25 qb x6_2).f2).length c258_2) ((rd_T25 qb x6_2).f2)) := ⟨by exact Kd.R_mono (Kd.R_far (p := ⟨qd, 1, none⟩) (Kd.R_types HL261_2.out qh.out (by decide)) (fun _ hk => hk.2) (.slice qm qk.length ql)) (fun _ hk => ⟨hk.1.1.1, ⟨hk.1.1.2.1, ⟨hk.1.1.2.2.1, ⟨hk.1.2, ⟨hk.1.1.2.2.2.1, hk.1.1.2.2.2.2⟩⟩⟩⟩⟩)⟩
               have n9_ : Aside0 (Kd.R k44 44 (w56.setCell ⟨qd, 1, none⟩ (.slice qm qk.length ql)) w.heap.size (fun k_ => some k_ ≠ (.slice (some ad258) qb.length qp : Value).ownBlock ∧ some k_ ≠ (.slice (some ad259) qe.length qq : Value).ownBlock ∧ some k_ ≠ (qj : Value).ownBlock ∧ some k_ ≠ (.slice qm qk.length ql : Value).ownBlock ∧ k_ ≠ qf ∧ k_ ≠ qd) (.slice A263_1 ((rd_T25 qb x6_2).f1).length c263_1) ((rd_T25 qb x6_2).f1)) := ⟨by exact Kd.R_mono (Kd.R_far (p := ⟨qd, 1, none⟩) (Kd.R_types HL263_1.out qh.out (by decide)) (fun _ hk => hk.2) (.slice qm qk.length ql)) (fun _ hk => ⟨hk.1.1.1, ⟨hk.1.1.2.1, ⟨hk.1.1.2.2.1, ⟨hk.1.2, ⟨hk.1.1.2.2.2.1, hk.1.1.2.2.2.2⟩⟩⟩⟩⟩)⟩
               have n10_ : Aside0 (Kd.R k46 46 (w56.setCell ⟨qd, 1, none⟩ (.slice qm qk.length ql)) w.heap.size (fun k_ => some k_ ≠ (.slice (some ad258) qb.length qp : Value).ownBlock ∧ some k_ ≠ (.slice (some ad259) qe.length qq : Value).ownBlock ∧ some k_ ≠ (qj : Value).ownBlock ∧ some k_ ≠ (.slice qm qk.length ql : Value).ownBlock ∧ k_ ≠ qf ∧ k_ ≠ qd) (.slice A263_2 ((rd_T25 qb x6_2).f2).length c263_2) ((rd_T25 qb x6_2).f2)) := ⟨by exact Kd.R_mono (Kd.R_far (p := ⟨qd, 1, none⟩) (Kd.R_types HL263_2.out qh.out (by decide)) (fun _ hk => hk.2) (.slice qm qk.length ql)) (fun _ hk => ⟨hk.1.1.1, ⟨hk.1.1.2.1, ⟨hk.1.1.2.2.1, ⟨hk.1.2, ⟨hk.1.1.2.2.2.1, hk.1.1.2.2.2.2⟩⟩⟩⟩⟩)⟩
               have n11_ : Aside0 (Kd.R k44 44 (w56.setCell ⟨qd, 1, none⟩ (.slice qm qk.length ql)) w.heap.size (fun _ => True) (.slice qm qk.length ql) qk) := ⟨by exact Kd.R_mono (Kd.R_far (p := ⟨qd, 1, none⟩) (Kd.R_types qx.out qh.out (by decide)) (fun _ hk => hk.2) (.slice qm qk.length ql)) (fun _ hk => trivial)⟩
               have n12_ : Aside0 ((w56.setCell ⟨qd, 1, none⟩ (.slice qm qk.length ql)).heap[qf]? = some (.cells #[.bool a0_0, .slice A0_1 l0_1.length c0_1, .slice A0_2 l0_2.length c0_2] 25 (0, 0))) := ⟨by refine blk_far ?_ qt.out _; exact qc.out⟩
               have n13_ : Aside0 ((w56.setCell ⟨qd, 1, none⟩ (.slice qm qk.length ql)).heap[qd]? = some (.cells #[.bool a0_0, .slice qm qk.length ql, qj] 25 (0, 0))) := ⟨by refine blk_put (cs := #[.bool a0_0, qr, qj]) ?_ 1 _ rfl; exact qh.out⟩
               have n14_ : Aside0 (Below w.heap.size w (w56.setCell ⟨qd, 1, none⟩ (.slice qm qk.length ql))) := ⟨by repeat (((with_reducible first | exact HB.out | refine below_set ?_ qan.out)))⟩
               (try clear HO_3)
               (try clear HO_4)
               (try clear qg)
               (try clear HL258_1)
               (try clear HL258_2)
               (try clear HL259_1)
               (try clear HL259_2)
               (try clear HL261_1)
               (try clear HL261_2)
               (try clear HL263_1)
               (try clear HL263_2)
               (try clear qx)
               (try clear qc)
               (try clear qh)
               (try clear HB)
               generalize (w56.setCell ⟨qd, 1, none⟩ (.slice qm qk.length ql)) = w59 at n0_ n1_ n2_ n3_ n4_ n5_ n6_ n7_ n8_ n9_ n10_ n11_ n12_ n13_ n14_ ⊢
               have HO_3 := n0_
               have HO_4 := n1_
               have qg := n2_
               have HL258_1 := n3_
               have HL258_2 := n4_
               have HL259_1 := n5_
               have HL259_2 := n6_
               have HL261_1 := n7_
               have HL261_2 := n8_
               have HL263_1 := n9_
               have HL263_2 := n10_
               have qx := n11_
               have qc := n12_
               have qh := n13_
               have HB := n14_
               clear n0_ n1_ n2_ n3_ n4_ n5_ n6_ n7_ n8_ n9_ n10_ n11_ n12_ n13_ n14_
               have n0_ := Aside0.mk (Kd.S_drew HO_3.out)
               have n1_ := Aside0.mk (Kd.S_drew HO_4.out)
               have n2_ := Aside0.mk (Kd.R_drew qg.out)
               have n3_ := Aside0.mk (Kd.R_drew HL258_1.out)
               have n4_ := Aside0.mk (Kd.R_drew HL258_2.out)
               have n5_ := Aside0.mk (Kd.R_drew HL259_1.out)
               have n6_ := Aside0.mk (Kd.R_drew HL259_2.out)
               have n7_ := Aside0.mk (Kd.R_drew HL261_1.out)
               have n8_ := Aside0.mk (Kd.R_drew HL261_2.out)
               have n9_ := Aside0.mk (Kd.R_drew HL263_1.out)
               have n10_ := Aside0.mk (Kd.R_drew HL263_2.out)
               have n11_ := Aside0.mk (Kd.R_drew qx.out)
               have n12_ := Aside0.mk (blk_drew qc.out)
               have n13_ := Aside0.mk (blk_drew qh.out)
               have n14_ := Aside0.mk (below_drew1 HB.out)
               clear HO_3 HO_4 qg HL258_1 HL258_2 HL259_1 HL259_2 HL261_1 HL261_2 HL263_1 HL263_2 qx qc qh HB
               have HO_3 := n0_
               have HO_4 := n1_
               have qg := n2_
               have HL258_1 := n3_
               have HL258_2 := n4_
               have HL259_1 := n5_
               have HL259_2 := n6_
               have HL261_1 := n7_
               have HL261_2 := n8_
               have HL263_1 := n9_
               have HL263_2 := n10_
               have qx := n11_
               have qc := n12_
               have qh := n13_
               have HB := n14_
               clear n0_ n1_ n2_ n3_ n4_ n5_ n6_ n7_ n8_ n9_ n10_ n11_ n12_ n13_ n14_
               have p267 : 0 ≤ (x6_2 : Int) := of_decide_eq_true (by ((with_reducible assumption)))
               have q267 : x6_2 < (qb.length : Int) := of_decide_eq_true (by ((with_reducible assumption)))
               obtain ⟨ad267, A267_1, c267_1, A267_2, c267_2, e267, hx267_0, hx267_1, hx267_2, hl267_1, hi267_1, hl267_2, hi267_2⟩ := at_T25 (Kd.S_reads' HO_3.out).2.2 x6_2 p267 q267
               obtain rfl : ad258 = ad267 := (by injection e267)
               obtain ⟨ce267, hce267, hMe267, hcc267⟩ := Kd.S_get HO_3.out z25 x6_2 p267 (by (exact q267))
               obtain ⟨ve267_1, ve267_2, rfl, ge267_1, ge267_2⟩ := k25_openM hMe267
               have hv267_1 := hcc267 1 _ rfl
               rw [add_field _ _ 1 (by omega)] at hv267_1
               replace hv267_1 := Option.some.inj (hv267_1.symm.trans hx267_1)
               rw [hv267_1] at ge267_1
               have HL267_1 := Aside0.mk (show Kd.R k44 44 _ _ _ _ ((rd_T25 qb x6_2).f1) from ge267_1)
               clear hv267_1 ge267_1
               have hv267_2 := hcc267 2 _ rfl
               rw [add_field _ _ 2 (by omega)] at hv267_2
               replace hv267_2 := Option.some.inj (hv267_2.symm.trans hx267_2)
               rw [hv267_2] at ge267_2
               have HL267_2 := Aside0.mk (show Kd.R k46 46 _ _ _ _ ((rd_T25 qb x6_2).f2) from ge267_2)
               clear hv267_2 ge267_2 hcc267 hce267
               have HR267_1 := Aside0.mk hi267_1
               have qbw := Aside0.mk hl267_1
               clear hi267_1 hl267_1
               have HR267_2 := Aside0.mk hi267_2
               have qbz := Aside0.mk hl267_2
               clear hi267_2 hl267_2
               replace p267 := eq_true p267
               replace q267 := eq_true q267
               refine start_ (n := 10) (S := fun w' => w'.cell? ⟨qd, 0, none⟩ = some (.bool a0_0) ∧ w'.cell? ⟨qd, 1, none⟩ = some (.slice qm qk.length ql) ∧ w'.cell? ⟨qd, 2, none⟩ = some (qj) ∧ w'.cell? (ad258.add ((x6_2).toNat * 3)) = some (.bool ((rd_T25 qb x6_2).f0)) ∧ w'.cell? ⟨(ad258.add ((x6_2).toNat * 3)).block, (ad258.add ((x6_2).toNat * 3)).off + 1, none⟩ = some (.slice A267_1 ((rd_T25 qb x6_2).f1).length c267_1) ∧ w'.cell? ⟨(ad258.add ((x6_2).toNat * 3)).block, (ad258.add ((x6_2).toNat * 3)).off + 2, none⟩ = some (.slice A267_2 ((rd_T25 qb x6_2).f2).length c267_2)) (ds := [7, 9]) #[false, false, false, false, false, false, false, false, false, false] (by kernel_rfl) rfl rfl ⟨(blk_cell qh.out 0).trans rfl, (blk_cell qh.out 1).trans rfl, (blk_cell qh.out 2).trans rfl, hx267_0, hx267_1, hx267_2⟩ (fun hHeld => ?_); refine with_tabW coppicelaw06_NodeSplits.tab15 coppicelaw06_NodeSplits.bits15 (fun HT_ HW_ => ?_)
               generalize w59.drew = w60 at HO_3 HO_4 qg HL258_1 HL258_2 HL259_1 HL259_2 HL261_1 HL261_2 HL263_1 HL263_2 qx qc qh HB HL267_1 HL267_2 HR267_1 HR267_2 hx267_0 hx267_1 hx267_2 hHeld ⊢
               refine pure_ (i := 0) (N := some 74) (v := ?_) (a' := ?_) #[true, false, false, false, false, false, false, false, false, false] rfl rfl (any_of HT_.out (by kernel_rfl)) (fun _ _ _ h => h) (Or.inl ⟨by rfl, ?_⟩) ?_ ?_
               rotate_left
               ·intro w'
                go_simp
                with_reducible rfl
               rotate_left
               ·simp only [Act.put, List.setIfInBounds_toArray, List.set_cons_zero, List.set_cons_succ, i64_w, i32_w]
                rfl
               refine pure_ (i := 2) (N := some 76) (v := ?_) (a' := ?_) #[true, false, true, false, false, false, false, false, false, false] rfl rfl (any_of HT_.out (by kernel_rfl)) (fun _ _ _ h => h) (Or.inl ⟨by rfl, ?_⟩) ?_ ?_
               rotate_left
               ·intro w'
                go_simp
                with_reducible rfl
               rotate_left
               ·simp only [Act.put, List.setIfInBounds_toArray, List.set_cons_zero, List.set_cons_succ, i64_w, i32_w]
                rfl
               refine pure_ (i := 3) (N := some 77) (v := ?_) (a' := ?_) #[true, false, true, true, false, false, false, false, false, false] rfl rfl (any_of HT_.out (by kernel_rfl)) (fun _ _ _ h => h) (Or.inl ⟨by rfl, ?_⟩) ?_ ?_
               rotate_left
               ·intro w'
                go_simp
                with_reducible rfl
               rotate_left
               ·simp only [Act.put, List.setIfInBounds_toArray, List.set_cons_zero, List.set_cons_succ, i64_w, i32_w]
                rfl
               refine pure_ (i := 4) (N := some 78) (v := ?_) (a' := ?_) #[true, false, true, true, true, false, false, false, false, false] rfl rfl (any_of HT_.out (by kernel_rfl)) (fun _ _ _ h => h) (Or.inl ⟨by rfl, ?_⟩) ?_ ?_
               rotate_left
               ·intro w'
                go_simp
                with_reducible rfl
               rotate_left
               ·simp only [Act.put, List.setIfInBounds_toArray, List.set_cons_zero, List.set_cons_succ, i64_w, i32_w]
                rfl
               refine pure_ (i := 5) (N := some 79) (v := ?_) (a' := ?_) #[true, false, true, true, true, true, false, false, false, false] rfl rfl (any_of HT_.out (by kernel_rfl)) (fun _ _ _ h => h) (Or.inl ⟨by rfl, ?_⟩) ?_ ?_
               rotate_left
               ·intro w'
                go_simp
                with_reducible rfl
               rotate_left
               ·simp only [Act.put, List.setIfInBounds_toArray, List.set_cons_zero, List.set_cons_succ, i64_w, i32_w]
                rfl
               refine take_ (i := 1) (N := some 75) (v := ?_) (a' := ?_) #[true, true, true, true, true, true, false, false, false, false] rfl rfl (take_ofW HT_.out HW_.out (by kernel_rfl)) (fun _ _ _ h => h) (Or.inl ⟨by rfl, ?_⟩) hHeld ?_ ?_
               rotate_left
               ·rintro w' ⟨s0, s1, s2, s3, s4, s5⟩
                go_simp
                with_reducible rfl
               rotate_left
               ·simp only [Act.put, List.setIfInBounds_toArray, List.set_cons_zero, List.set_cons_succ, i64_w, i32_w]
                rfl
               refine take_ (i := 6) (N := some 80) (v := ?_) (a' := ?_) #[true, true, true, true, true, true, true, false, false, false] rfl rfl (take_ofW HT_.out HW_.out (by kernel_rfl)) (fun _ _ _ h => h) (Or.inl ⟨by rfl, ?_⟩) hHeld ?_ ?_
               rotate_left
               ·rintro w' ⟨s0, s1, s2, s3, s4, s5⟩
                go_simp
                with_reducible rfl
               rotate_left
               ·simp only [Act.put, List.setIfInBounds_toArray, List.set_cons_zero, List.set_cons_succ, i64_w, i32_w]
                rfl
               refine last_ (i := 7) (N := some 81) #[true, true, true, true, true, true, true, true, false, false] rfl rfl (one_of HT_.out (by kernel_rfl)) (by decide) (fun K hK => ?_)
               refine Kd.R_append_rows_step k46 (w0 := w) w.heap.size (by rfl) (.tmp 75) (.tmp 80) 23 46 (.agg #[(.string ⟨#[]⟩), (.int .i64 0)]) 24 rfl Try.underlying23 info46 rfl (by decide) (by omega) qj qn ((rd_T25 qb x6_2).f2) _ _ _ (fun _ => True) (fun _ => False) rfl rfl ?aO ?aR (fun _ _ h => h) (fun _ h => h.elim) ?aF ?aB ?aS ?aL ?_
               (case aR => repeat ((exact (by repeat ((exact HR267_2.out))))))
               (case aB => exact (by repeat (((with_reducible (exact HB.out))))))
               (case aF => exact (fun _ _ => trivial))
               (case aO => exact (by exact qg.out))
               (case aS => exact (below_size (by repeat (((with_reducible (exact HB.out)))))))
               (case aL => have := qax.out; omega)
               intro qcg w61 ho hb hg hat
               rw [← qaw.out] at ho
               have n0_ := Aside0.mk (Kd.S_after (ok := (fun k_ => some k_ ≠ (.slice (some ad259) qe.length qq : Value).ownBlock ∧ some k_ ≠ (.slice qm qk.length ql : Value).ownBlock ∧ k_ ≠ qf ∧ k_ ≠ qd)) (by exact Kd.S_mono HO_3.out (fun _ hk => ⟨⟨hk.1, ⟨hk.2.2.1, ⟨hk.2.2.2.1, hk.2.2.2.2⟩⟩⟩, hk.2.1⟩)) hg hat)
               have n1_ := Aside0.mk (Kd.S_after (ok := (fun k_ => some k_ ≠ (.slice (some ad258) qb.length qp : Value).ownBlock ∧ some k_ ≠ (.slice qm qk.length ql : Value).ownBlock ∧ k_ ≠ qf ∧ k_ ≠ qd)) (by exact Kd.S_mono HO_4.out (fun _ hk => ⟨⟨hk.1, ⟨hk.2.2.1, ⟨hk.2.2.2.1, hk.2.2.2.2⟩⟩⟩, hk.2.1⟩)) hg hat)
               have n2_ := Aside0.mk (blk_grown (g := qf) (o := .cells #[.bool a0_0, .slice A0_1 l0_1.length c0_1, .slice A0_2 l0_2.length c0_2] 25 (0, 0)) (by exact qc.out) hg (Kd.R_ne qg.out qc.out (by decide)))
               have n3_ := Aside0.mk (blk_grown (g := qd) (o := .cells #[.bool a0_0, .slice qm qk.length ql, qj] 25 (0, 0)) (by exact qh.out) hg (Kd.R_ne qg.out qh.out (by decide)))
               have n4_ := Aside0.mk (Kd.R_after (ok := (fun k_ => some k_ ≠ (.slice (some ad258) qb.length qp : Value).ownBlock ∧ some k_ ≠ (.slice (some ad259) qe.length qq : Value).ownBlock ∧ some k_ ≠ (.slice qm qk.length ql : Value).ownBlock ∧ k_ ≠ qf ∧ k_ ≠ qd)) (by exact Kd.R_mono HL258_1.out (fun _ hk => ⟨⟨hk.1, ⟨hk.2.1, ⟨hk.2.2.2.1, ⟨hk.2.2.2.2.1, hk.2.2.2.2.2⟩⟩⟩⟩, hk.2.2.1⟩)) hg hat)
               have n5_ := Aside0.mk (Kd.R_after (ok := (fun k_ => some k_ ≠ (.slice (some ad258) qb.length qp : Value).ownBlock ∧ some k_ ≠ (.slice (some ad259) qe.length qq : Value).ownBlock ∧ some k_ ≠ (.slice qm qk.length ql : Value).ownBlock ∧ k_ ≠ qf ∧ k_ ≠ qd)) (by exact Kd.R_mono HL258_2.out (fun _ hk => ⟨⟨hk.1, ⟨hk.2.1, ⟨hk.2.2.2.1, ⟨hk.2.2.2.2.1, hk.2.2.2.2.2⟩⟩⟩⟩, hk.2.2.1⟩)) hg hat)
               have n6_ := Aside0.mk (Kd.R_after (ok := (fun k_ => some k_ ≠ (.slice (some ad258) qb.length qp : Value).ownBlock ∧ some k_ ≠ (.slice (some ad259) qe.length qq : Value).ownBlock ∧ some k_ ≠ (.slice qm qk.length ql : Value).ownBlock ∧ k_ ≠ qf ∧ k_ ≠ qd)) (by exact Kd.R_mono HL259_1.out (fun _ hk => ⟨⟨hk.1, ⟨hk.2.1, ⟨hk.2.2.2.1, ⟨hk.2.2.2.2.1, hk.2.2.2.2.2⟩⟩⟩⟩, hk.2.2.1⟩)) hg hat)
               have n7_ := Aside0.mk (Kd.R_after (ok := (fun k_ => some k_ ≠ (.slice (some ad258) qb.length qp : Value).ownBlock ∧ some k_ ≠ (.slice (some ad259) qe.length qq : Value).ownBlock ∧ some k_ ≠ (.slice qm qk.length ql : Value).ownBlock ∧ k_ ≠ qf ∧ k_ ≠ qd)) (by exact Kd.R_mono HL259_2.out (fun _ hk => ⟨⟨hk.1, ⟨hk.2.1, ⟨hk.2.2.2.1, ⟨hk.2.2.2.2.1, hk.2.2.2.2.2⟩⟩⟩⟩, hk.2.2.1⟩)) hg hat)
               have n8_ := Aside0.mk (Kd.R_after (ok := (fun k_ => some k_ ≠ (.slice (some ad258) qb.length qp : Value).ownBlock ∧ some k_ ≠ (.slice (some ad259) qe.length qq : Value).ownBlock ∧ some k_ ≠ (.slice qm qk.length ql : Value).ownBlock ∧ k_ ≠ qf ∧ k_ ≠ qd)) (by exact Kd.R_mono HL261_1.out (fun _ hk => ⟨⟨hk.1, ⟨hk.2.1, ⟨hk.2.2.2.1, ⟨hk.2.2.2.2.1, hk.2.2.2.2.2⟩⟩⟩⟩, hk.2.2.1⟩)) hg hat)
               have n9_ := Aside0.mk (Kd.R_after (ok := (fun k_ => some k_ ≠ (.slice (some ad258) qb.length qp : Value).ownBlock ∧ some k_ ≠ (.slice (some ad259) qe.length qq : Value).ownBlock ∧ some k_ ≠ (.slice qm qk.length ql : Value).ownBlock ∧ k_ ≠ qf ∧ k_ ≠ qd)) (by exact Kd.R_mono HL261_2.out (fun _ hk => ⟨⟨hk.1, ⟨hk.2.1, ⟨hk.2.2.2.1, ⟨hk.2.2.2.2.1, hk.2.2.2.2.2⟩⟩⟩⟩, hk.2.2.1⟩)) hg hat)
               have n10_ := Aside0.mk (Kd.R_after (ok := (fun k_ => some k_ ≠ (.slice (some ad258) qb.length qp : Value).ownBlock ∧ some k_ ≠ (.slice (some ad259) qe.length qq : Value).ownBlock ∧ some k_ ≠ (.slice qm qk.length ql : Value).ownBlock ∧ k_ ≠ qf ∧ k_ ≠ qd)) (by exact Kd.R_mono HL263_1.out (fun _ hk => ⟨⟨hk.1, ⟨hk.2.1, ⟨hk.2.2.2.1, ⟨hk.2.2.2.2.1, hk.2.2.2.2.2⟩⟩⟩⟩, hk.2.2.1⟩)) hg hat)
               have n11_ := Aside0.mk (Kd.R_after (ok := (fun k_ => some k_ ≠ (.slice (some ad258) qb.length qp : Value).ownBlock ∧ some k_ ≠ (.slice (some ad259) qe.length qq : Value).ownBlock ∧ some k_ ≠ (.slice qm qk.length ql : Value).ownBlock ∧ k_ ≠ qf ∧ k_ ≠ qd)) (by exact Kd.R_mono HL263_2.out (fun _ hk => ⟨⟨hk.1, ⟨hk.2.1, ⟨hk.2.2.2.1, ⟨hk.2.2.2.2.1, hk.2.2.2.2.2⟩⟩⟩⟩, hk.2.2.1⟩)) hg hat)
               have n12_ := Aside0.mk (Kd.R_over' (by exact qx.out) (Kd.R_typed (by exact qg.out)) (by decide) hg)
               have n13_ := Aside0.mk (Kd.R_after (ok := (fun k_ => some k_ ≠ (.slice (some ad258) qb.length qp : Value).ownBlock ∧ some k_ ≠ (.slice (some ad259) qe.length qq : Value).ownBlock ∧ some k_ ≠ (.slice qm qk.length ql : Value).ownBlock ∧ k_ ≠ qf ∧ k_ ≠ qd)) (by exact Kd.R_mono HL267_1.out (fun _ hk => ⟨⟨hk.2, ⟨hk.1.1, ⟨hk.1.2.2.1, ⟨hk.1.2.2.2.1, hk.1.2.2.2.2⟩⟩⟩⟩, hk.1.2.1⟩)) hg hat)
               have n14_ := Aside0.mk (Kd.R_after (ok := (fun k_ => some k_ ≠ (.slice (some ad258) qb.length qp : Value).ownBlock ∧ some k_ ≠ (.slice (some ad259) qe.length qq : Value).ownBlock ∧ some k_ ≠ (.slice qm qk.length ql : Value).ownBlock ∧ k_ ≠ qf ∧ k_ ≠ qd)) (by exact Kd.R_mono HL267_2.out (fun _ hk => ⟨⟨hk.2, ⟨hk.1.1, ⟨hk.1.2.2.1, ⟨hk.1.2.2.2.1, hk.1.2.2.2.2⟩⟩⟩⟩, hk.1.2.1⟩)) hg hat)
               have n15_ := Aside0.mk (hb)
               have n16_ := Aside0.mk (ho)
               clear HO_3 HO_4 qc qh HL258_1 HL258_2 HL259_1 HL259_2 HL261_1 HL261_2 HL263_1 HL263_2 qx HL267_1 HL267_2 HB qg
               have HO_3 := n0_
               have HO_4 := n1_
               have qc := n2_
               have qh := n3_
               have HL258_1 := n4_
               have HL258_2 := n5_
               have HL259_1 := n6_
               have HL259_2 := n7_
               have HL261_1 := n8_
               have HL261_2 := n9_
               have HL263_1 := n10_
               have HL263_2 := n11_
               have qx := n12_
               have HL267_1 := n13_
               have HL267_2 := n14_
               have HB := n15_
               have qas := n16_
               clear n0_ n1_ n2_ n3_ n4_ n5_ n6_ n7_ n8_ n9_ n10_ n11_ n12_ n13_ n14_ n15_ n16_ ho hb hg hat
               obtain ⟨qaj, qak, qbp⟩ := Kd.R_slice qas.out
               ((subst qbp))
               refine hK.out _ _ ?_
               clear hK K
               refine norm_ (a' := ?_) ?_ ?_
               rotate_left
               ·show Act.put _ (some 81) _ = _
                simp only [Act.put, List.setIfInBounds_toArray, List.set_cons_zero, List.set_cons_succ, i64_w, i32_w]
                rfl
               refine pure_ (i := 8) (N := some 82) (v := ?_) (a' := ?_) #[true, true, true, true, true, true, true, true, true, false] rfl rfl (any_of HT_.out (by kernel_rfl)) (fun _ _ _ h => h) (Or.inl ⟨by rfl, ?_⟩) ?_ ?_
               rotate_left
               ·intro w'
                go_simp
                with_reducible rfl
               rotate_left
               ·simp only [Act.put, List.setIfInBounds_toArray, List.set_cons_zero, List.set_cons_succ, i64_w, i32_w]
                rfl
               refine last_ (i := 9) (N := none) #[true, true, true, true, true, true, true, true, true, true] rfl rfl (one_of HT_.out (by kernel_rfl)) (by decide) (fun K hK => ?_)
               have hs63 : w61.cell? ⟨qd, 2, none⟩ = some (qj) := (blk_cell qh.out 2).trans rfl
               have hfs63 := blk_frozen qh.out 2
               have hns63_0 := qt.out
               have hms63_0 := qz.out
               refine skip_ (w1 := ?_) (by rfl) rfl ?_ ?_
               rotate_left
               ·go_simp
                rfl
               refine hK.out _ _ ?_
               clear hK K
               refine done_ (done_of HT_.out (by kernel_rfl)) ?_
               try go_wp2
               go_roundg k2
               case measure => have := HJ11.out; have := HK2.out; omega
               case rel => exact ⟨(wrap64 (x6_2 + 1)), (qk), (qaf), (.slice qm qk.length ql), (.slice qaj qaf.length qak), (by (rfl)), H', ⟨by have := HJ11.out; have := HK2.out; omega⟩, ⟨by exact Kd.S_mono (Kd.S_far (p := ⟨qd, 2, none⟩) (Kd.S_mono HO_3.out (fun k_ hk => (⟨hk, hk.1.2.2.2⟩ : _ ∧ k_ ≠ qd))) (fun _ hk => hk.2) (.slice qaj qaf.length qak)) (fun _ hk => ⟨hk.1.1.1, ⟨hk.1.1.2.1, ⟨hk.1.2, ⟨hk.1.1.2.2.1, hk.1.1.2.2.2⟩⟩⟩⟩)⟩, ⟨by exact Kd.S_mono (Kd.S_far (p := ⟨qd, 2, none⟩) (Kd.S_mono HO_4.out (fun k_ hk => (⟨hk, hk.1.2.2.2⟩ : _ ∧ k_ ≠ qd))) (fun _ hk => hk.2) (.slice qaj qaf.length qak)) (fun _ hk => ⟨hk.1.1.1, ⟨hk.1.1.2.1, ⟨hk.1.2, ⟨hk.1.1.2.2.1, hk.1.1.2.2.2⟩⟩⟩⟩)⟩, ⟨by exact Kd.R_mono (Kd.R_far (p := ⟨qd, 2, none⟩) (Kd.R_types qx.out qh.out (by decide)) (fun _ hk => hk.2) (.slice qaj qaf.length qak)) (fun _ hk => trivial)⟩, ⟨by exact Kd.R_mono (Kd.R_far (p := ⟨qd, 2, none⟩) (Kd.R_types qas.out qh.out (by decide)) (fun _ hk => hk.2) (.slice qaj qaf.length qak)) (fun _ hk => trivial)⟩, ⟨by refine blk_far ?_ qt.out _; exact qc.out⟩, ⟨by refine blk_put (cs := #[.bool a0_0, .slice qm qk.length ql, qj]) ?_ 2 _ rfl; exact qh.out⟩, ⟨by repeat (((with_reducible first | exact HB.out | refine below_set ?_ qan.out)))⟩⟩
              ·rw [if_neg c49] at H
               exact absurd H (by simp)
             ·rw [if_neg c48] at H
              exact absurd H (by simp)
            ·rw [if_neg c47] at H
             have c47b0 : (qy == 0) = false := beq_eq_false_iff_ne.mpr c47
             have c47b1 : (qy != 0) = true := bne_iff_ne.mpr c47
             obtain rfl := Option.some.inj H
             obtain ⟨qcw, qcx, qbm⟩ := Kd.S_slice HO_3.out
             subst qbm
             try go_wp2
             have n0_ := Aside0.mk (Kd.S_drew HO_3.out)
             have n1_ := Aside0.mk (Kd.S_drew HO_4.out)
             have n2_ := Aside0.mk (Kd.R_drew qi.out)
             have n3_ := Aside0.mk (Kd.R_drew qg.out)
             have n4_ := Aside0.mk (blk_drew qc.out)
             have n5_ := Aside0.mk (blk_drew qh.out)
             have n6_ := Aside0.mk (below_drew1 HB.out)
             clear HO_3 HO_4 qi qg qc qh HB
             have HO_3 := n0_
             have HO_4 := n1_
             have qi := n2_
             have qg := n3_
             have qc := n4_
             have qh := n5_
             have HB := n6_
             clear n0_ n1_ n2_ n3_ n4_ n5_ n6_
             have p258 : 0 ≤ (x6_2 : Int) := of_decide_eq_true (by ((with_reducible assumption)))
             have q258 : x6_2 < (qb.length : Int) := of_decide_eq_true (by ((with_reducible assumption)))
             obtain ⟨ad258, A258_1, c258_1, A258_2, c258_2, e258, hx258_0, hx258_1, hx258_2, hl258_1, hi258_1, hl258_2, hi258_2⟩ := at_T25 (Kd.S_reads' HO_3.out).2.2 x6_2 p258 q258
             cases e258
             obtain ⟨ce258, hce258, hMe258, hcc258⟩ := Kd.S_get HO_3.out z25 x6_2 p258 (by (exact q258))
             obtain ⟨ve258_1, ve258_2, rfl, ge258_1, ge258_2⟩ := k25_openM hMe258
             have hv258_1 := hcc258 1 _ rfl
             rw [add_field _ _ 1 (by omega)] at hv258_1
             replace hv258_1 := Option.some.inj (hv258_1.symm.trans hx258_1)
             rw [hv258_1] at ge258_1
             have HL258_1 := Aside0.mk (show Kd.R k44 44 _ _ _ _ ((rd_T25 qb x6_2).f1) from ge258_1)
             clear hv258_1 ge258_1
             have hv258_2 := hcc258 2 _ rfl
             rw [add_field _ _ 2 (by omega)] at hv258_2
             replace hv258_2 := Option.some.inj (hv258_2.symm.trans hx258_2)
             rw [hv258_2] at ge258_2
             have HL258_2 := Aside0.mk (show Kd.R k46 46 _ _ _ _ ((rd_T25 qb x6_2).f2) from ge258_2)
             clear hv258_2 ge258_2 hcc258 hce258
             have HR258_1 := Aside0.mk hi258_1
             have qad := Aside0.mk hl258_1
             clear hi258_1 hl258_1
             have HR258_2 := Aside0.mk hi258_2
             have qab := Aside0.mk hl258_2
             clear hi258_2 hl258_2
             replace p258 := eq_true p258
             replace q258 := eq_true q258
             obtain ⟨qcy, qcb, qbg⟩ := Kd.S_slice HO_4.out
             ((subst qbg))
             have p259 : 0 ≤ (x6_2 : Int) := of_decide_eq_true (by ((with_reducible assumption)))
             have q259 : x6_2 < (qe.length : Int) := of_decide_eq_true (by ((with_reducible assumption)))
             obtain ⟨ad259, A259_1, c259_1, A259_2, c259_2, e259, hx259_0, hx259_1, hx259_2, hl259_1, hi259_1, hl259_2, hi259_2⟩ := at_T25 (Kd.S_reads' HO_4.out).2.2 x6_2 p259 q259
             cases e259
             obtain ⟨ce259, hce259, hMe259, hcc259⟩ := Kd.S_get HO_4.out z25 x6_2 p259 (by (exact q259))
             obtain ⟨ve259_1, ve259_2, rfl, ge259_1, ge259_2⟩ := k25_openM hMe259
             have hv259_1 := hcc259 1 _ rfl
             rw [add_field _ _ 1 (by omega)] at hv259_1
             replace hv259_1 := Option.some.inj (hv259_1.symm.trans hx259_1)
             rw [hv259_1] at ge259_1
             have HL259_1 := Aside0.mk (show Kd.R k44 44 _ _ _ _ ((rd_T25 qe x6_2).f1) from ge259_1)
             clear hv259_1 ge259_1
             have hv259_2 := hcc259 2 _ rfl
             rw [add_field _ _ 2 (by omega)] at hv259_2
             replace hv259_2 := Option.some.inj (hv259_2.symm.trans hx259_2)
             rw [hv259_2] at ge259_2
             have HL259_2 := Aside0.mk (show Kd.R k46 46 _ _ _ _ ((rd_T25 qe x6_2).f2) from ge259_2)
             clear hv259_2 ge259_2 hcc259 hce259
             have HR259_1 := Aside0.mk hi259_1
             have qaa := Aside0.mk hl259_1
             clear hi259_1 hl259_1
             have HR259_2 := Aside0.mk hi259_2
             have qac := Aside0.mk hl259_2
             clear hi259_2 hl259_2
             replace p259 := eq_true p259
             replace q259 := eq_true q259
             have p261 : 0 ≤ (x6_2 : Int) := of_decide_eq_true (by ((with_reducible assumption)))
             have q261 : x6_2 < (qb.length : Int) := of_decide_eq_true (by ((with_reducible assumption)))
             obtain ⟨ad261, A261_1, c261_1, A261_2, c261_2, e261, hx261_0, hx261_1, hx261_2, hl261_1, hi261_1, hl261_2, hi261_2⟩ := at_T25 (Kd.S_reads' HO_3.out).2.2 x6_2 p261 q261
             obtain rfl : ad258 = ad261 := (by injection e261)
             obtain ⟨rfl, rfl⟩ : A258_1 = A261_1 ∧ c258_1 = c261_1 := (by have e_ := Option.some.inj (hx258_1.symm.trans hx261_1); injection e_ with f1_ f2_ f3_; exact ⟨f1_, f3_⟩)
             obtain ⟨rfl, rfl⟩ : A258_2 = A261_2 ∧ c258_2 = c261_2 := (by have e_ := Option.some.inj (hx258_2.symm.trans hx261_2); injection e_ with f1_ f2_ f3_; exact ⟨f1_, f3_⟩)
             obtain ⟨ce261, hce261, hMe261, hcc261⟩ := Kd.S_get HO_3.out z25 x6_2 p261 (by (exact q261))
             obtain ⟨ve261_1, ve261_2, rfl, ge261_1, ge261_2⟩ := k25_openM hMe261
             have hv261_1 := hcc261 1 _ rfl
             rw [add_field _ _ 1 (by omega)] at hv261_1
             replace hv261_1 := Option.some.inj (hv261_1.symm.trans hx261_1)
             rw [hv261_1] at ge261_1
             have HL261_1 := Aside0.mk (show Kd.R k44 44 _ _ _ _ ((rd_T25 qb x6_2).f1) from ge261_1)
             clear hv261_1 ge261_1
             have hv261_2 := hcc261 2 _ rfl
             rw [add_field _ _ 2 (by omega)] at hv261_2
             replace hv261_2 := Option.some.inj (hv261_2.symm.trans hx261_2)
             rw [hv261_2] at ge261_2
             have HL261_2 := Aside0.mk (show Kd.R k46 46 _ _ _ _ ((rd_T25 qb x6_2).f2) from ge261_2)
             clear hv261_2 ge261_2 hcc261 hce261
             have HR261_1 := Aside0.mk hi261_1
             have qai := Aside0.mk hl261_1
             clear hi261_1 hl261_1
             have HR261_2 := Aside0.mk hi261_2
             have qah := Aside0.mk hl261_2
             clear hi261_2 hl261_2
             replace p261 := eq_true p261
             replace q261 := eq_true q261
             refine start_ (n := 18) (S := fun w' => w'.cell? (ad258.add ((x6_2).toNat * 3)) = some (.bool ((rd_T25 qb x6_2).f0)) ∧ w'.cell? ⟨(ad258.add ((x6_2).toNat * 3)).block, (ad258.add ((x6_2).toNat * 3)).off + 1, none⟩ = some (.slice A258_1 ((rd_T25 qb x6_2).f1).length c258_1) ∧ w'.cell? ⟨(ad258.add ((x6_2).toNat * 3)).block, (ad258.add ((x6_2).toNat * 3)).off + 2, none⟩ = some (.slice A258_2 ((rd_T25 qb x6_2).f2).length c258_2) ∧ w'.cell? (ad259.add ((x6_2).toNat * 3)) = some (.bool ((rd_T25 qe x6_2).f0)) ∧ w'.cell? ⟨(ad259.add ((x6_2).toNat * 3)).block, (ad259.add ((x6_2).toNat * 3)).off + 1, none⟩ = some (.slice A259_1 ((rd_T25 qe x6_2).f1).length c259_1) ∧ w'.cell? ⟨(ad259.add ((x6_2).toNat * 3)).block, (ad259.add ((x6_2).toNat * 3)).off + 2, none⟩ = some (.slice A259_2 ((rd_T25 qe x6_2).f2).length c259_2) ∧ w'.cell? (ad258.add ((x6_2).toNat * 3)) = some (.bool ((rd_T25 qb x6_2).f0)) ∧ w'.cell? ⟨(ad258.add ((x6_2).toNat * 3)).block, (ad258.add ((x6_2).toNat * 3)).off + 1, none⟩ = some (.slice A258_1 ((rd_T25 qb x6_2).f1).length c258_1) ∧ w'.cell? ⟨(ad258.add ((x6_2).toNat * 3)).block, (ad258.add ((x6_2).toNat * 3)).off + 2, none⟩ = some (.slice A258_2 ((rd_T25 qb x6_2).f2).length c258_2)) (ds := []) #[false, false, false, false, false, false, false, false, false, false, false, false, false, false, false, false, false, false] (by kernel_rfl) rfl rfl ⟨hx258_0, hx258_1, hx258_2, hx259_0, hx259_1, hx259_2, hx261_0, hx261_1, hx261_2⟩ (fun hHeld => ?_); refine with_tabW coppicelaw06_NodeSplits.tab12 coppicelaw06_NodeSplits.bits12 (fun HT_ HW_ => ?_)
             generalize wr.drew = w65 at HO_3 HO_4 qi qg qc qh HB HL258_1 HL258_2 HL259_1 HL259_2 HL261_1 HL261_2 HR258_1 HR258_2 HR259_1 HR259_2 HR261_1 HR261_2 hx258_0 hx258_1 hx258_2 hx259_0 hx259_1 hx259_2 hx261_0 hx261_1 hx261_2 hHeld ⊢
             refine pure_ (i := 0) (N := some 47) (v := ?_) (a' := ?_) #[true, false, false, false, false, false, false, false, false, false, false, false, false, false, false, false, false, false] rfl rfl (any_of HT_.out (by kernel_rfl)) (fun _ _ _ h => h) (Or.inl ⟨by rfl, ?_⟩) ?_ ?_
             rotate_left
             ·intro w'
              go_simp
              with_reducible rfl
             rotate_left
             ·simp only [Act.put, List.setIfInBounds_toArray, List.set_cons_zero, List.set_cons_succ, i64_w, i32_w]
              rfl
             refine pure_ (i := 1) (N := some 48) (v := ?_) (a' := ?_) #[true, true, false, false, false, false, false, false, false, false, false, false, false, false, false, false, false, false] rfl rfl (any_of HT_.out (by kernel_rfl)) (fun _ _ _ h => h) (Or.inl ⟨by rfl, ?_⟩) ?_ ?_
             rotate_left
             ·intro w'
              go_simp
              with_reducible rfl
             rotate_left
             ·simp only [Act.put, List.setIfInBounds_toArray, List.set_cons_zero, List.set_cons_succ, i64_w, i32_w]
              rfl
             refine pure_ (i := 2) (N := some 49) (v := ?_) (a' := ?_) #[true, true, true, false, false, false, false, false, false, false, false, false, false, false, false, false, false, false] rfl rfl (any_of HT_.out (by kernel_rfl)) (fun _ _ _ h => h) (Or.inl ⟨by rfl, ?_⟩) ?_ ?_
             rotate_left
             ·intro w'
              go_simp
              with_reducible rfl
             rotate_left
             ·simp only [Act.put, List.setIfInBounds_toArray, List.set_cons_zero, List.set_cons_succ, i64_w, i32_w]
              rfl
             refine pure_ (i := 4) (N := some 51) (v := ?_) (a' := ?_) #[true, true, true, false, true, false, false, false, false, false, false, false, false, false, false, false, false, false] rfl rfl (any_of HT_.out (by kernel_rfl)) (fun _ _ _ h => h) (Or.inl ⟨by rfl, ?_⟩) ?_ ?_
             rotate_left
             ·intro w'
              go_simp
              with_reducible rfl
             rotate_left
             ·simp only [Act.put, List.setIfInBounds_toArray, List.set_cons_zero, List.set_cons_succ, i64_w, i32_w]
              rfl
             refine pure_ (i := 5) (N := some 52) (v := ?_) (a' := ?_) #[true, true, true, false, true, true, false, false, false, false, false, false, false, false, false, false, false, false] rfl rfl (any_of HT_.out (by kernel_rfl)) (fun _ _ _ h => h) (Or.inl ⟨by rfl, ?_⟩) ?_ ?_
             rotate_left
             ·intro w'
              go_simp
              with_reducible rfl
             rotate_left
             ·simp only [Act.put, List.setIfInBounds_toArray, List.set_cons_zero, List.set_cons_succ, i64_w, i32_w]
              rfl
             refine pure_ (i := 6) (N := some 53) (v := ?_) (a' := ?_) #[true, true, true, false, true, true, true, false, false, false, false, false, false, false, false, false, false, false] rfl rfl (any_of HT_.out (by kernel_rfl)) (fun _ _ _ h => h) (Or.inl ⟨by rfl, ?_⟩) ?_ ?_
             rotate_left
             ·intro w'
              go_simp
              with_reducible rfl
             rotate_left
             ·simp only [Act.put, List.setIfInBounds_toArray, List.set_cons_zero, List.set_cons_succ, i64_w, i32_w]
              rfl
             refine take_ (i := 3) (N := some 50) (v := ?_) (a' := ?_) #[true, true, true, true, true, true, true, false, false, false, false, false, false, false, false, false, false, false] rfl rfl (take_ofW HT_.out HW_.out (by kernel_rfl)) (fun _ _ _ h => h) (Or.inl ⟨by rfl, ?_⟩) hHeld ?_ ?_
             rotate_left
             ·rintro w' ⟨s0, s1, s2, s3, s4, s5, s6, s7, s8⟩
              go_simp
              with_reducible rfl
             rotate_left
             ·simp only [Act.put, List.setIfInBounds_toArray, List.set_cons_zero, List.set_cons_succ, i64_w, i32_w]
              rfl
             refine take_ (i := 7) (N := some 54) (v := ?_) (a' := ?_) #[true, true, true, true, true, true, true, true, false, false, false, false, false, false, false, false, false, false] rfl rfl (take_ofW HT_.out HW_.out (by kernel_rfl)) (fun _ _ _ h => h) (Or.inl ⟨by rfl, ?_⟩) hHeld ?_ ?_
             rotate_left
             ·rintro w' ⟨s0, s1, s2, s3, s4, s5, s6, s7, s8⟩
              go_simp
              with_reducible rfl
             rotate_left
             ·simp only [Act.put, List.setIfInBounds_toArray, List.set_cons_zero, List.set_cons_succ, i64_w, i32_w]
              rfl
             refine one_ (i := 8) (N := some 55) #[true, true, true, true, true, true, true, true, true, false, false, false, false, false, false, false, false, false] rfl rfl (one_of HT_.out (by kernel_rfl)) (by decide) (fun K hK => ?_)
             refine goes_ Try.func21 (by kernel_rfl) rfl #[.agg #[.bool ((rd_T25 qb x6_2).f0), .slice A258_1 ((rd_T25 qb x6_2).f1).length c258_1, .slice A258_2 ((rd_T25 qb x6_2).f2).length c258_2], .agg #[.bool ((rd_T25 qe x6_2).f0), .slice A259_1 ((rd_T25 qe x6_2).f1).length c259_1, .slice A259_2 ((rd_T25 qe x6_2).f2).length c259_2]] (by rfl) rfl rfl (by (try simp only [List.map_toArray, List.map_cons, List.map_nil]); (rfl)) ?_
             with_reducible refine (coppiceref06_Same.calls k2 ((rd_T25 qb x6_2).f0) _ _ ((rd_T25 qb x6_2).f1) _ _ ((rd_T25 qb x6_2).f2) ((rd_T25 qe x6_2).f0) _ _ ((rd_T25 qe x6_2).f1) _ _ ((rd_T25 qe x6_2).f2) true _ ?side1 ?side2 ?side3 ?side4 ?side5 ?side6 ?side7 ?side8 A44.out).mono ?_
             (case side1 => repeat ((exact (by repeat (((with_reducible exact HR258_1.out)))))))
             (case side2 => exact qad.out)
             (case side3 => repeat ((exact (by repeat (((with_reducible exact HR258_2.out)))))))
             (case side4 => exact qab.out)
             (case side5 => repeat ((exact (by repeat (((with_reducible exact HR259_1.out)))))))
             (case side6 => exact qaa.out)
             (case side7 => repeat ((exact (by repeat (((with_reducible exact HR259_2.out)))))))
             (case side8 => exact qac.out)
             rintro e w67 ⟨rfl, hb⟩
             have m_ := Aside0.mk (Kd.R_below (by exact HL261_1.out) hb)
             clear HL261_1
             have HL261_1 := m_
             clear m_
             have m_ := Aside0.mk (Kd.C_below (by repeat (((with_reducible exact HR261_1.out)))) hb)
             clear HR261_1
             have HR261_1 := m_
             clear m_
             have m_ := Aside0.mk (Kd.R_below (by exact HL261_2.out) hb)
             clear HL261_2
             have HL261_2 := m_
             clear m_
             have m_ := Aside0.mk (Kd.C_below (by repeat (((with_reducible exact HR261_2.out)))) hb)
             clear HR261_2
             have HR261_2 := m_
             clear m_
             have HS0_ := (hb.cell (World.block_lt_of_cell? _ _ (hHeld.1))).trans (hHeld.1)
             have HS1_ := (hb.cell (World.block_lt_of_cell? _ _ (hHeld.2.1))).trans (hHeld.2.1)
             have HS2_ := (hb.cell (World.block_lt_of_cell? _ _ (hHeld.2.2.1))).trans (hHeld.2.2.1)
             have HS3_ := (hb.cell (World.block_lt_of_cell? _ _ (hHeld.2.2.2.1))).trans (hHeld.2.2.2.1)
             have HS4_ := (hb.cell (World.block_lt_of_cell? _ _ (hHeld.2.2.2.2.1))).trans (hHeld.2.2.2.2.1)
             have HS5_ := (hb.cell (World.block_lt_of_cell? _ _ (hHeld.2.2.2.2.2.1))).trans (hHeld.2.2.2.2.2.1)
             have HS6_ := (hb.cell (World.block_lt_of_cell? _ _ (hHeld.2.2.2.2.2.2.1))).trans (hHeld.2.2.2.2.2.2.1)
             have HS7_ := (hb.cell (World.block_lt_of_cell? _ _ (hHeld.2.2.2.2.2.2.2.1))).trans (hHeld.2.2.2.2.2.2.2.1)
             have HS8_ := (hb.cell (World.block_lt_of_cell? _ _ (hHeld.2.2.2.2.2.2.2.2))).trans (hHeld.2.2.2.2.2.2.2.2)
             refine ⟨_, rfl, ?_⟩
             have n0_ := Aside0.mk (Kd.S_below (by exact HO_3.out) hb)
             have n1_ := Aside0.mk (Kd.S_below (by exact HO_4.out) hb)
             have n2_ := Aside0.mk (Kd.R_below (by exact qi.out) hb)
             have n3_ := Aside0.mk (Kd.R_below (by exact qg.out) hb)
             have n4_ := Aside0.mk (Kd.R_below (by exact HL258_1.out) hb)
             have n5_ := Aside0.mk (Kd.R_below (by exact HL258_2.out) hb)
             have n6_ := Aside0.mk (Kd.R_below (by exact HL259_1.out) hb)
             have n7_ := Aside0.mk (Kd.R_below (by exact HL259_2.out) hb)
             have n8_ := Aside0.mk (blk_below (g := qf) (o := .cells #[.bool a0_0, .slice A0_1 l0_1.length c0_1, .slice A0_2 l0_2.length c0_2] 25 (0, 0)) (by exact qc.out) hb)
             have n9_ := Aside0.mk (blk_below (g := qd) (o := .cells #[.bool a0_0, qr, qj] 25 (0, 0)) (by exact qh.out) hb)
             have n10_ := Aside0.mk (Kd.C_below (by repeat (((with_reducible exact HR258_1.out)))) hb)
             have n11_ := Aside0.mk (Kd.C_below (by repeat (((with_reducible exact HR258_2.out)))) hb)
             have n12_ := Aside0.mk (Kd.C_below (by repeat (((with_reducible exact HR259_1.out)))) hb)
             have n13_ := Aside0.mk (Kd.C_below (by repeat (((with_reducible exact HR259_2.out)))) hb)
             have n14_ := Aside0.mk (below_step (by repeat (((with_reducible (exact HB.out))))) hb)
             clear HO_3 HO_4 qi qg HL258_1 HL258_2 HL259_1 HL259_2 qc qh HR258_1 HR258_2 HR259_1 HR259_2 HB
             have HO_3 := n0_
             have HO_4 := n1_
             have qi := n2_
             have qg := n3_
             have HL258_1 := n4_
             have HL258_2 := n5_
             have HL259_1 := n6_
             have HL259_2 := n7_
             have qc := n8_
             have qh := n9_
             have HR258_1 := n10_
             have HR258_2 := n11_
             have HR259_1 := n12_
             have HR259_2 := n13_
             have HB := n14_
             clear n0_ n1_ n2_ n3_ n4_ n5_ n6_ n7_ n8_ n9_ n10_ n11_ n12_ n13_ n14_
             (try clear hb)
             refine hK.out _ _ ⟨HS0_, HS1_, HS2_, HS3_, HS4_, HS5_, HS6_, HS7_, HS8_⟩ (fun hHeld => ?_)
             clear hK K
             refine norm_ (a' := ?_) ?_ ?_
             rotate_left
             ·show Act.put _ (some 55) _ = _
              simp only [Act.put, List.setIfInBounds_toArray, List.set_cons_zero, List.set_cons_succ, i64_w, i32_w]
              rfl
             refine pure_ (i := 9) (N := some 56) (v := ?_) (a' := ?_) #[true, true, true, true, true, true, true, true, true, true, false, false, false, false, false, false, false, false] rfl rfl (any_of HT_.out (by kernel_rfl)) (fun _ _ _ h => h) (Or.inl ⟨by rfl, ?_⟩) ?_ ?_
             rotate_left
             ·intro w'
              go_simp
              with_reducible rfl
             rotate_left
             ·simp only [Act.put, List.setIfInBounds_toArray, List.set_cons_zero, List.set_cons_succ, i64_w, i32_w]
              rfl
             refine pure_ (i := 10) (N := some 57) (v := ?_) (a' := ?_) #[true, true, true, true, true, true, true, true, true, true, true, false, false, false, false, false, false, false] rfl rfl (any_of HT_.out (by kernel_rfl)) (fun _ _ _ h => h) (Or.inl ⟨by rfl, ?_⟩) ?_ ?_
             rotate_left
             ·intro w'
              go_simp
              with_reducible rfl
             rotate_left
             ·simp only [Act.put, List.setIfInBounds_toArray, List.set_cons_zero, List.set_cons_succ, i64_w, i32_w]
              rfl
             refine pure_ (i := 11) (N := some 58) (v := ?_) (a' := ?_) #[true, true, true, true, true, true, true, true, true, true, true, true, false, false, false, false, false, false] rfl rfl (any_of HT_.out (by kernel_rfl)) (fun _ _ _ h => h) (Or.inl ⟨by rfl, ?_⟩) ?_ ?_
             rotate_left
             ·intro w'
              go_simp
              with_reducible rfl
             rotate_left
             ·simp only [Act.put, List.setIfInBounds_toArray, List.set_cons_zero, List.set_cons_succ, i64_w, i32_w]
              rfl
             refine pure_ (i := 12) (N := some 59) (v := ?_) (a' := ?_) #[true, true, true, true, true, true, true, true, true, true, true, true, true, false, false, false, false, false] rfl rfl (any_of HT_.out (by kernel_rfl)) (fun _ _ _ h => h) (Or.inl ⟨by rfl, ?_⟩) ?_ ?_
             rotate_left
             ·intro w'
              go_simp
              with_reducible rfl
             rotate_left
             ·simp only [Act.put, List.setIfInBounds_toArray, List.set_cons_zero, List.set_cons_succ, i64_w, i32_w]
              rfl
             refine pure_ (i := 13) (N := some 60) (v := ?_) (a' := ?_) #[true, true, true, true, true, true, true, true, true, true, true, true, true, true, false, false, false, false] rfl rfl (any_of HT_.out (by kernel_rfl)) (fun _ _ _ h => h) (Or.inl ⟨by rfl, ?_⟩) ?_ ?_
             rotate_left
             ·intro w'
              go_simp
              with_reducible rfl
             rotate_left
             ·simp only [Act.put, List.setIfInBounds_toArray, List.set_cons_zero, List.set_cons_succ, i64_w, i32_w]
              rfl
             refine take_ (i := 14) (N := some 61) (v := ?_) (a' := ?_) #[true, true, true, true, true, true, true, true, true, true, true, true, true, true, true, false, false, false] rfl rfl (take_ofW HT_.out HW_.out (by kernel_rfl)) (fun _ _ _ h => h) (Or.inl ⟨by rfl, ?_⟩) hHeld ?_ ?_
             rotate_left
             ·rintro w' ⟨s0, s1, s2, s3, s4, s5, s6, s7, s8⟩
              go_simp
              with_reducible rfl
             rotate_left
             ·simp only [Act.put, List.setIfInBounds_toArray, List.set_cons_zero, List.set_cons_succ, i64_w, i32_w]
              rfl
             refine one_ (i := 15) (N := some 62) #[true, true, true, true, true, true, true, true, true, true, true, true, true, true, true, true, false, false] rfl rfl (one_of HT_.out (by kernel_rfl)) (by decide) (fun K hK => ?_)
             refine goes_ Try.func13 (by kernel_rfl) rfl #[.agg #[.bool ((rd_T25 qb x6_2).f0), .slice A258_1 ((rd_T25 qb x6_2).f1).length c258_1, .slice A258_2 ((rd_T25 qb x6_2).f2).length c258_2]] (by rfl) rfl rfl (by (try simp only [List.map_toArray, List.map_cons, List.map_nil]); (rfl)) ?_
             with_reducible refine (node_Check.calls ((rd_T25 qb x6_2).f0) _ _ ((rd_T25 qb x6_2).f1) _ _ ((rd_T25 qb x6_2).f2) qy _ ?side1 ?side2 ?side3 ?side4 A46.out).mono ?_
             (case side1 => repeat ((exact (by repeat (((with_reducible exact HR261_1.out)))))))
             (case side2 => exact qai.out)
             (case side3 => repeat ((exact (by repeat (((with_reducible exact HR261_2.out)))))))
             (case side4 => exact qah.out)
             rintro e w68 ⟨rfl, hb⟩
             have HS0_ := (hb.cell (World.block_lt_of_cell? _ _ (hHeld.1))).trans (hHeld.1)
             have HS1_ := (hb.cell (World.block_lt_of_cell? _ _ (hHeld.2.1))).trans (hHeld.2.1)
             have HS2_ := (hb.cell (World.block_lt_of_cell? _ _ (hHeld.2.2.1))).trans (hHeld.2.2.1)
             have HS3_ := (hb.cell (World.block_lt_of_cell? _ _ (hHeld.2.2.2.1))).trans (hHeld.2.2.2.1)
             have HS4_ := (hb.cell (World.block_lt_of_cell? _ _ (hHeld.2.2.2.2.1))).trans (hHeld.2.2.2.2.1)
             have HS5_ := (hb.cell (World.block_lt_of_cell? _ _ (hHeld.2.2.2.2.2.1))).trans (hHeld.2.2.2.2.2.1)
             have HS6_ := (hb.cell (World.block_lt_of_cell? _ _ (hHeld.2.2.2.2.2.2.1))).trans (hHeld.2.2.2.2.2.2.1)
             have HS7_ := (hb.cell (World.block_lt_of_cell? _ _ (hHeld.2.2.2.2.2.2.2.1))).trans (hHeld.2.2.2.2.2.2.2.1)
             have HS8_ := (hb.cell (World.block_lt_of_cell? _ _ (hHeld.2.2.2.2.2.2.2.2))).trans (hHeld.2.2.2.2.2.2.2.2)
             refine ⟨_, rfl, ?_⟩
             have n0_ := Aside0.mk (Kd.S_below (by exact HO_3.out) hb)
             have n1_ := Aside0.mk (Kd.S_below (by exact HO_4.out) hb)
             have n2_ := Aside0.mk (Kd.R_below (by exact qi.out) hb)
             have n3_ := Aside0.mk (Kd.R_below (by exact qg.out) hb)
             have n4_ := Aside0.mk (Kd.R_below (by exact HL258_1.out) hb)
             have n5_ := Aside0.mk (Kd.R_below (by exact HL258_2.out) hb)
             have n6_ := Aside0.mk (Kd.R_below (by exact HL259_1.out) hb)
             have n7_ := Aside0.mk (Kd.R_below (by exact HL259_2.out) hb)
             have n8_ := Aside0.mk (Kd.R_below (by exact HL261_1.out) hb)
             have n9_ := Aside0.mk (Kd.R_below (by exact HL261_2.out) hb)
             have n10_ := Aside0.mk (blk_below (g := qf) (o := .cells #[.bool a0_0, .slice A0_1 l0_1.length c0_1, .slice A0_2 l0_2.length c0_2] 25 (0, 0)) (by exact qc.out) hb)
             have n11_ := Aside0.mk (blk_below (g := qd) (o := .cells #[.bool a0_0, qr, qj] 25 (0, 0)) (by exact qh.out) hb)
             have n12_ := Aside0.mk (Kd.C_below (by repeat (((with_reducible exact HR258_1.out)))) hb)
             have n13_ := Aside0.mk (Kd.C_below (by repeat (((with_reducible exact HR258_2.out)))) hb)
             have n14_ := Aside0.mk (Kd.C_below (by repeat (((with_reducible exact HR259_1.out)))) hb)
             have n15_ := Aside0.mk (Kd.C_below (by repeat (((with_reducible exact HR259_2.out)))) hb)
             have n16_ := Aside0.mk (Kd.C_below (by repeat (((with_reducible exact HR261_1.out)))) hb)
             have n17_ := Aside0.mk (Kd.C_below (by repeat (((with_reducible exact HR261_2.out)))) hb)
             have n18_ := Aside0.mk (below_step (by repeat (((with_reducible (exact HB.out))))) hb)
             clear HO_3 HO_4 qi qg HL258_1 HL258_2 HL259_1 HL259_2 HL261_1 HL261_2 qc qh HR258_1 HR258_2 HR259_1 HR259_2 HR261_1 HR261_2 HB
             have HO_3 := n0_
             have HO_4 := n1_
             have qi := n2_
             have qg := n3_
             have HL258_1 := n4_
             have HL258_2 := n5_
             have HL259_1 := n6_
             have HL259_2 := n7_
             have HL261_1 := n8_
             have HL261_2 := n9_
             have qc := n10_
             have qh := n11_
             have HR258_1 := n12_
             have HR258_2 := n13_
             have HR259_1 := n14_
             have HR259_2 := n15_
             have HR261_1 := n16_
             have HR261_2 := n17_
             have HB := n18_
             clear n0_ n1_ n2_ n3_ n4_ n5_ n6_ n7_ n8_ n9_ n10_ n11_ n12_ n13_ n14_ n15_ n16_ n17_ n18_
             (try clear hb)
             refine hK.out _ _ ⟨HS0_, HS1_, HS2_, HS3_, HS4_, HS5_, HS6_, HS7_, HS8_⟩ (fun hHeld => ?_)
             clear hK K
             refine norm_ (a' := ?_) ?_ ?_
             rotate_left
             ·show Act.put _ (some 62) _ = _
              simp only [Act.put, List.setIfInBounds_toArray, List.set_cons_zero, List.set_cons_succ, i64_w, i32_w]
              rfl
             refine pure_ (i := 16) (N := some 63) (v := ?_) (a' := ?_) #[true, true, true, true, true, true, true, true, true, true, true, true, true, true, true, true, true, false] rfl rfl (any_of HT_.out (by kernel_rfl)) (fun _ _ _ h => h) (Or.inl ⟨by rfl, ?_⟩) ?_ ?_
             rotate_left
             ·intro w'
              go_simp
              with_reducible rfl
             rotate_left
             ·simp only [Act.put, List.setIfInBounds_toArray, List.set_cons_zero, List.set_cons_succ, i64_w, i32_w]
              rfl
             refine pure_ (i := 17) (N := some 64) (v := ?_) (a' := ?_) #[true, true, true, true, true, true, true, true, true, true, true, true, true, true, true, true, true, true] rfl rfl (any_of HT_.out (by kernel_rfl)) (fun _ _ _ h => h) (Or.inl ⟨by rfl, ?_⟩) ?_ ?_
             rotate_left
             ·intro w'
              go_simp
              with_reducible rfl
             rotate_left
             ·simp only [Act.put, List.setIfInBounds_toArray, List.set_cons_zero, List.set_cons_succ, i64_w, i32_w]
              rfl
             refine done_ (done_of HT_.out (by kernel_rfl)) ?_
             try go_wp2
             go_ret
             exact ⟨by (rfl), by repeat (((with_reducible (exact HB.out))))⟩
           ·replace c45 := Bool.eq_false_iff.mpr c45
            subst c45
            have H1 : (some false) = some r := by rw [if_neg (show ¬ (false = true) by decide)] at H; exact H
            clear H
            have H := H1
            clear H1
            obtain rfl := Option.some.inj H
            obtain ⟨qcp, qcz, qbe⟩ := Kd.S_slice HO_3.out
            subst qbe
            try go_wp2
            have n0_ := Aside0.mk (Kd.S_drew HO_3.out)
            have n1_ := Aside0.mk (Kd.S_drew HO_4.out)
            have n2_ := Aside0.mk (Kd.R_drew qi.out)
            have n3_ := Aside0.mk (Kd.R_drew qg.out)
            have n4_ := Aside0.mk (blk_drew qc.out)
            have n5_ := Aside0.mk (blk_drew qh.out)
            have n6_ := Aside0.mk (below_drew1 HB.out)
            clear HO_3 HO_4 qi qg qc qh HB
            have HO_3 := n0_
            have HO_4 := n1_
            have qi := n2_
            have qg := n3_
            have qc := n4_
            have qh := n5_
            have HB := n6_
            clear n0_ n1_ n2_ n3_ n4_ n5_ n6_
            have p258 : 0 ≤ (x6_2 : Int) := of_decide_eq_true (by ((with_reducible assumption)))
            have q258 : x6_2 < (qb.length : Int) := of_decide_eq_true (by ((with_reducible assumption)))
            obtain ⟨ad258, A258_1, c258_1, A258_2, c258_2, e258, hx258_0, hx258_1, hx258_2, hl258_1, hi258_1, hl258_2, hi258_2⟩ := at_T25 (Kd.S_reads' HO_3.out).2.2 x6_2 p258 q258
            cases e258
            obtain ⟨ce258, hce258, hMe258, hcc258⟩ := Kd.S_get HO_3.out z25 x6_2 p258 (by (exact q258))
            obtain ⟨ve258_1, ve258_2, rfl, ge258_1, ge258_2⟩ := k25_openM hMe258
            have hv258_1 := hcc258 1 _ rfl
            rw [add_field _ _ 1 (by omega)] at hv258_1
            replace hv258_1 := Option.some.inj (hv258_1.symm.trans hx258_1)
            rw [hv258_1] at ge258_1
            have HL258_1 := Aside0.mk (show Kd.R k44 44 _ _ _ _ ((rd_T25 qb x6_2).f1) from ge258_1)
            clear hv258_1 ge258_1
            have hv258_2 := hcc258 2 _ rfl
            rw [add_field _ _ 2 (by omega)] at hv258_2
            replace hv258_2 := Option.some.inj (hv258_2.symm.trans hx258_2)
            rw [hv258_2] at ge258_2
            have HL258_2 := Aside0.mk (show Kd.R k46 46 _ _ _ _ ((rd_T25 qb x6_2).f2) from ge258_2)
            clear hv258_2 ge258_2 hcc258 hce258
            have HR258_1 := Aside0.mk hi258_1
            have qad := Aside0.mk hl258_1
            clear hi258_1 hl258_1
            have HR258_2 := Aside0.mk hi258_2
            have qab := Aside0.mk hl258_2
            clear hi258_2 hl258_2
            replace p258 := eq_true p258
            replace q258 := eq_true q258
            obtain ⟨qcl, qcn, qbk⟩ := Kd.S_slice HO_4.out
            ((subst qbk))
            have p259 : 0 ≤ (x6_2 : Int) := of_decide_eq_true (by ((with_reducible assumption)))
            have q259 : x6_2 < (qe.length : Int) := of_decide_eq_true (by ((with_reducible assumption)))
            obtain ⟨ad259, A259_1, c259_1, A259_2, c259_2, e259, hx259_0, hx259_1, hx259_2, hl259_1, hi259_1, hl259_2, hi259_2⟩ := at_T25 (Kd.S_reads' HO_4.out).2.2 x6_2 p259 q259
            cases e259
            obtain ⟨ce259, hce259, hMe259, hcc259⟩ := Kd.S_get HO_4.out z25 x6_2 p259 (by (exact q259))
            obtain ⟨ve259_1, ve259_2, rfl, ge259_1, ge259_2⟩ := k25_openM hMe259
            have hv259_1 := hcc259 1 _ rfl
            rw [add_field _ _ 1 (by omega)] at hv259_1
            replace hv259_1 := Option.some.inj (hv259_1.symm.trans hx259_1)
            rw [hv259_1] at ge259_1
            have HL259_1 := Aside0.mk (show Kd.R k44 44 _ _ _ _ ((rd_T25 qe x6_2).f1) from ge259_1)
            clear hv259_1 ge259_1
            have hv259_2 := hcc259 2 _ rfl
            rw [add_field _ _ 2 (by omega)] at hv259_2
            replace hv259_2 := Option.some.inj (hv259_2.symm.trans hx259_2)
            rw [hv259_2] at ge259_2
            have HL259_2 := Aside0.mk (show Kd.R k46 46 _ _ _ _ ((rd_T25 qe x6_2).f2) from ge259_2)
            clear hv259_2 ge259_2 hcc259 hce259
            have HR259_1 := Aside0.mk hi259_1
            have qaa := Aside0.mk hl259_1
            clear hi259_1 hl259_1
            have HR259_2 := Aside0.mk hi259_2
            have qac := Aside0.mk hl259_2
            clear hi259_2 hl259_2
            replace p259 := eq_true p259
            replace q259 := eq_true q259
            refine start_ (n := 18) (S := fun w' => w'.cell? (ad258.add ((x6_2).toNat * 3)) = some (.bool ((rd_T25 qb x6_2).f0)) ∧ w'.cell? ⟨(ad258.add ((x6_2).toNat * 3)).block, (ad258.add ((x6_2).toNat * 3)).off + 1, none⟩ = some (.slice A258_1 ((rd_T25 qb x6_2).f1).length c258_1) ∧ w'.cell? ⟨(ad258.add ((x6_2).toNat * 3)).block, (ad258.add ((x6_2).toNat * 3)).off + 2, none⟩ = some (.slice A258_2 ((rd_T25 qb x6_2).f2).length c258_2) ∧ w'.cell? (ad259.add ((x6_2).toNat * 3)) = some (.bool ((rd_T25 qe x6_2).f0)) ∧ w'.cell? ⟨(ad259.add ((x6_2).toNat * 3)).block, (ad259.add ((x6_2).toNat * 3)).off + 1, none⟩ = some (.slice A259_1 ((rd_T25 qe x6_2).f1).length c259_1) ∧ w'.cell? ⟨(ad259.add ((x6_2).toNat * 3)).block, (ad259.add ((x6_2).toNat * 3)).off + 2, none⟩ = some (.slice A259_2 ((rd_T25 qe x6_2).f2).length c259_2)) (ds := []) #[false, false, false, false, false, false, false, false, false, false, false, false, false, false, false, false, false, false] (by kernel_rfl) rfl rfl ⟨hx258_0, hx258_1, hx258_2, hx259_0, hx259_1, hx259_2⟩ (fun hHeld => ?_); refine with_tabW coppicelaw06_NodeSplits.tab12 coppicelaw06_NodeSplits.bits12 (fun HT_ HW_ => ?_)
            generalize wr.drew = w70 at HO_3 HO_4 qi qg qc qh HB HL258_1 HL258_2 HL259_1 HL259_2 HR258_1 HR258_2 HR259_1 HR259_2 hx258_0 hx258_1 hx258_2 hx259_0 hx259_1 hx259_2 hHeld ⊢
            refine pure_ (i := 0) (N := some 47) (v := ?_) (a' := ?_) #[true, false, false, false, false, false, false, false, false, false, false, false, false, false, false, false, false, false] rfl rfl (any_of HT_.out (by kernel_rfl)) (fun _ _ _ h => h) (Or.inl ⟨by rfl, ?_⟩) ?_ ?_
            rotate_left
            ·intro w'
             go_simp
             with_reducible rfl
            rotate_left
            ·simp only [Act.put, List.setIfInBounds_toArray, List.set_cons_zero, List.set_cons_succ, i64_w, i32_w]
             rfl
            refine pure_ (i := 1) (N := some 48) (v := ?_) (a' := ?_) #[true, true, false, false, false, false, false, false, false, false, false, false, false, false, false, false, false, false] rfl rfl (any_of HT_.out (by kernel_rfl)) (fun _ _ _ h => h) (Or.inl ⟨by rfl, ?_⟩) ?_ ?_
            rotate_left
            ·intro w'
             go_simp
             with_reducible rfl
            rotate_left
            ·simp only [Act.put, List.setIfInBounds_toArray, List.set_cons_zero, List.set_cons_succ, i64_w, i32_w]
             rfl
            refine pure_ (i := 2) (N := some 49) (v := ?_) (a' := ?_) #[true, true, true, false, false, false, false, false, false, false, false, false, false, false, false, false, false, false] rfl rfl (any_of HT_.out (by kernel_rfl)) (fun _ _ _ h => h) (Or.inl ⟨by rfl, ?_⟩) ?_ ?_
            rotate_left
            ·intro w'
             go_simp
             with_reducible rfl
            rotate_left
            ·simp only [Act.put, List.setIfInBounds_toArray, List.set_cons_zero, List.set_cons_succ, i64_w, i32_w]
             rfl
            refine pure_ (i := 4) (N := some 51) (v := ?_) (a' := ?_) #[true, true, true, false, true, false, false, false, false, false, false, false, false, false, false, false, false, false] rfl rfl (any_of HT_.out (by kernel_rfl)) (fun _ _ _ h => h) (Or.inl ⟨by rfl, ?_⟩) ?_ ?_
            rotate_left
            ·intro w'
             go_simp
             with_reducible rfl
            rotate_left
            ·simp only [Act.put, List.setIfInBounds_toArray, List.set_cons_zero, List.set_cons_succ, i64_w, i32_w]
             rfl
            refine pure_ (i := 5) (N := some 52) (v := ?_) (a' := ?_) #[true, true, true, false, true, true, false, false, false, false, false, false, false, false, false, false, false, false] rfl rfl (any_of HT_.out (by kernel_rfl)) (fun _ _ _ h => h) (Or.inl ⟨by rfl, ?_⟩) ?_ ?_
            rotate_left
            ·intro w'
             go_simp
             with_reducible rfl
            rotate_left
            ·simp only [Act.put, List.setIfInBounds_toArray, List.set_cons_zero, List.set_cons_succ, i64_w, i32_w]
             rfl
            refine pure_ (i := 6) (N := some 53) (v := ?_) (a' := ?_) #[true, true, true, false, true, true, true, false, false, false, false, false, false, false, false, false, false, false] rfl rfl (any_of HT_.out (by kernel_rfl)) (fun _ _ _ h => h) (Or.inl ⟨by rfl, ?_⟩) ?_ ?_
            rotate_left
            ·intro w'
             go_simp
             with_reducible rfl
            rotate_left
            ·simp only [Act.put, List.setIfInBounds_toArray, List.set_cons_zero, List.set_cons_succ, i64_w, i32_w]
             rfl
            refine take_ (i := 3) (N := some 50) (v := ?_) (a' := ?_) #[true, true, true, true, true, true, true, false, false, false, false, false, false, false, false, false, false, false] rfl rfl (take_ofW HT_.out HW_.out (by kernel_rfl)) (fun _ _ _ h => h) (Or.inl ⟨by rfl, ?_⟩) hHeld ?_ ?_
            rotate_left
            ·rintro w' ⟨s0, s1, s2, s3, s4, s5⟩
             go_simp
             with_reducible rfl
            rotate_left
            ·simp only [Act.put, List.setIfInBounds_toArray, List.set_cons_zero, List.set_cons_succ, i64_w, i32_w]
             rfl
            refine take_ (i := 7) (N := some 54) (v := ?_) (a' := ?_) #[true, true, true, true, true, true, true, true, false, false, false, false, false, false, false, false, false, false] rfl rfl (take_ofW HT_.out HW_.out (by kernel_rfl)) (fun _ _ _ h => h) (Or.inl ⟨by rfl, ?_⟩) hHeld ?_ ?_
            rotate_left
            ·rintro w' ⟨s0, s1, s2, s3, s4, s5⟩
             go_simp
             with_reducible rfl
            rotate_left
            ·simp only [Act.put, List.setIfInBounds_toArray, List.set_cons_zero, List.set_cons_succ, i64_w, i32_w]
             rfl
            refine one_ (i := 8) (N := some 55) #[true, true, true, true, true, true, true, true, true, false, false, false, false, false, false, false, false, false] rfl rfl (one_of HT_.out (by kernel_rfl)) (by decide) (fun K hK => ?_)
            refine goes_ Try.func21 (by kernel_rfl) rfl #[.agg #[.bool ((rd_T25 qb x6_2).f0), .slice A258_1 ((rd_T25 qb x6_2).f1).length c258_1, .slice A258_2 ((rd_T25 qb x6_2).f2).length c258_2], .agg #[.bool ((rd_T25 qe x6_2).f0), .slice A259_1 ((rd_T25 qe x6_2).f1).length c259_1, .slice A259_2 ((rd_T25 qe x6_2).f2).length c259_2]] (by rfl) rfl rfl (by (try simp only [List.map_toArray, List.map_cons, List.map_nil]); (rfl)) ?_
            with_reducible refine (coppiceref06_Same.calls k2 ((rd_T25 qb x6_2).f0) _ _ ((rd_T25 qb x6_2).f1) _ _ ((rd_T25 qb x6_2).f2) ((rd_T25 qe x6_2).f0) _ _ ((rd_T25 qe x6_2).f1) _ _ ((rd_T25 qe x6_2).f2) false _ ?side1 ?side2 ?side3 ?side4 ?side5 ?side6 ?side7 ?side8 A44.out).mono ?_
            (case side1 => repeat ((exact (by repeat (((with_reducible exact HR258_1.out)))))))
            (case side2 => exact qad.out)
            (case side3 => repeat ((exact (by repeat (((with_reducible exact HR258_2.out)))))))
            (case side4 => exact qab.out)
            (case side5 => repeat ((exact (by repeat (((with_reducible exact HR259_1.out)))))))
            (case side6 => exact qaa.out)
            (case side7 => repeat ((exact (by repeat (((with_reducible exact HR259_2.out)))))))
            (case side8 => exact qac.out)
            rintro e w72 ⟨rfl, hb⟩
            have HS0_ := (hb.cell (World.block_lt_of_cell? _ _ (hHeld.1))).trans (hHeld.1)
            have HS1_ := (hb.cell (World.block_lt_of_cell? _ _ (hHeld.2.1))).trans (hHeld.2.1)
            have HS2_ := (hb.cell (World.block_lt_of_cell? _ _ (hHeld.2.2.1))).trans (hHeld.2.2.1)
            have HS3_ := (hb.cell (World.block_lt_of_cell? _ _ (hHeld.2.2.2.1))).trans (hHeld.2.2.2.1)
            have HS4_ := (hb.cell (World.block_lt_of_cell? _ _ (hHeld.2.2.2.2.1))).trans (hHeld.2.2.2.2.1)
            have HS5_ := (hb.cell (World.block_lt_of_cell? _ _ (hHeld.2.2.2.2.2))).trans (hHeld.2.2.2.2.2)
            refine ⟨_, rfl, ?_⟩
            have n0_ := Aside0.mk (Kd.S_below (by exact HO_3.out) hb)
            have n1_ := Aside0.mk (Kd.S_below (by exact HO_4.out) hb)
            have n2_ := Aside0.mk (Kd.R_below (by exact qi.out) hb)
            have n3_ := Aside0.mk (Kd.R_below (by exact qg.out) hb)
            have n4_ := Aside0.mk (Kd.R_below (by exact HL258_1.out) hb)
            have n5_ := Aside0.mk (Kd.R_below (by exact HL258_2.out) hb)
            have n6_ := Aside0.mk (Kd.R_below (by exact HL259_1.out) hb)
            have n7_ := Aside0.mk (Kd.R_below (by exact HL259_2.out) hb)
            have n8_ := Aside0.mk (blk_below (g := qf) (o := .cells #[.bool a0_0, .slice A0_1 l0_1.length c0_1, .slice A0_2 l0_2.length c0_2] 25 (0, 0)) (by exact qc.out) hb)
            have n9_ := Aside0.mk (blk_below (g := qd) (o := .cells #[.bool a0_0, qr, qj] 25 (0, 0)) (by exact qh.out) hb)
            have n10_ := Aside0.mk (Kd.C_below (by repeat (((with_reducible exact HR258_1.out)))) hb)
            have n11_ := Aside0.mk (Kd.C_below (by repeat (((with_reducible exact HR258_2.out)))) hb)
            have n12_ := Aside0.mk (Kd.C_below (by repeat (((with_reducible exact HR259_1.out)))) hb)
            have n13_ := Aside0.mk (Kd.C_below (by repeat (((with_reducible exact HR259_2.out)))) hb)
            have n14_ := Aside0.mk (below_step (by repeat (((with_reducible (exact HB.out))))) hb)
            clear HO_3 HO_4 qi qg HL258_1 HL258_2 HL259_1 HL259_2 qc qh HR258_1 HR258_2 HR259_1 HR259_2 HB
            have HO_3 := n0_
            have HO_4 := n1_
            have qi := n2_
            have qg := n3_
            have HL258_1 := n4_
            have HL258_2 := n5_
            have HL259_1 := n6_
            have HL259_2 := n7_
            have qc := n8_
            have qh := n9_
            have HR258_1 := n10_
            have HR258_2 := n11_
            have HR259_1 := n12_
            have HR259_2 := n13_
            have HB := n14_
            clear n0_ n1_ n2_ n3_ n4_ n5_ n6_ n7_ n8_ n9_ n10_ n11_ n12_ n13_ n14_
            (try clear hb)
            refine hK.out _ _ ⟨HS0_, HS1_, HS2_, HS3_, HS4_, HS5_⟩ (fun hHeld => ?_)
            clear hK K
            refine norm_ (a' := ?_) ?_ ?_
            rotate_left
            ·show Act.put _ (some 55) _ = _
             simp only [Act.put, List.setIfInBounds_toArray, List.set_cons_zero, List.set_cons_succ, i64_w, i32_w]
             rfl
            refine pure_ (i := 9) (N := some 56) (v := ?_) (a' := ?_) #[true, true, true, true, true, true, true, true, true, true, false, false, false, false, false, false, false, false] rfl rfl (any_of HT_.out (by kernel_rfl)) (fun _ _ _ h => h) (Or.inl ⟨by rfl, ?_⟩) ?_ ?_
            rotate_left
            ·intro w'
             go_simp
             with_reducible rfl
            rotate_left
            ·simp only [Act.put, List.setIfInBounds_toArray, List.set_cons_zero, List.set_cons_succ, i64_w, i32_w]
             rfl
            refine pure_ (i := 10) (N := some 57) (v := ?_) (a' := ?_) #[true, true, true, true, true, true, true, true, true, true, true, false, false, false, false, false, false, false] rfl rfl (any_of HT_.out (by kernel_rfl)) (fun _ _ _ h => h) (Or.inl ⟨by rfl, ?_⟩) ?_ ?_
            rotate_left
            ·intro w'
             go_simp
             with_reducible rfl
            rotate_left
            ·simp only [Act.put, List.setIfInBounds_toArray, List.set_cons_zero, List.set_cons_succ, i64_w, i32_w]
             rfl
            refine pure_ (i := 11) (N := some 58) (v := undef) (a' := ?_) #[true, true, true, true, true, true, true, true, true, true, true, true, false, false, false, false, false, false] rfl rfl (any_of HT_.out (by kernel_rfl)) (fun _ _ _ h => h) (Or.inr ⟨by rfl, rfl⟩) ?_ ?_
            rotate_left
            ·simp only [Act.put, List.setIfInBounds_toArray, List.set_cons_zero, List.set_cons_succ, i64_w, i32_w]
             rfl
            refine pure_ (i := 12) (N := some 59) (v := undef) (a' := ?_) #[true, true, true, true, true, true, true, true, true, true, true, true, true, false, false, false, false, false] rfl rfl (any_of HT_.out (by kernel_rfl)) (fun _ _ _ h => h) (Or.inr ⟨by rfl, rfl⟩) ?_ ?_
            rotate_left
            ·simp only [Act.put, List.setIfInBounds_toArray, List.set_cons_zero, List.set_cons_succ, i64_w, i32_w]
             rfl
            refine pure_ (i := 13) (N := some 60) (v := undef) (a' := ?_) #[true, true, true, true, true, true, true, true, true, true, true, true, true, true, false, false, false, false] rfl rfl (any_of HT_.out (by kernel_rfl)) (fun _ _ _ h => h) (Or.inr ⟨by rfl, rfl⟩) ?_ ?_
            rotate_left
            ·simp only [Act.put, List.setIfInBounds_toArray, List.set_cons_zero, List.set_cons_succ, i64_w, i32_w]
             rfl
            refine pure_ (i := 14) (N := some 61) (v := undef) (a' := ?_) #[true, true, true, true, true, true, true, true, true, true, true, true, true, true, true, false, false, false] rfl rfl (any_of HT_.out (by kernel_rfl)) (fun _ _ _ h => h) (Or.inr ⟨by rfl, rfl⟩) ?_ ?_
            rotate_left
            ·simp only [Act.put, List.setIfInBounds_toArray, List.set_cons_zero, List.set_cons_succ, i64_w, i32_w]
             rfl
            refine pure_ (i := 15) (N := some 62) (v := undef) (a' := ?_) #[true, true, true, true, true, true, true, true, true, true, true, true, true, true, true, true, false, false] rfl rfl (any_of HT_.out (by kernel_rfl)) (fun _ _ _ h => h) (Or.inr ⟨by rfl, rfl⟩) ?_ ?_
            rotate_left
            ·simp only [Act.put, List.setIfInBounds_toArray, List.set_cons_zero, List.set_cons_succ, i64_w, i32_w]
             rfl
            refine pure_ (i := 16) (N := some 63) (v := undef) (a' := ?_) #[true, true, true, true, true, true, true, true, true, true, true, true, true, true, true, true, true, false] rfl rfl (any_of HT_.out (by kernel_rfl)) (fun _ _ _ h => h) (Or.inr ⟨by rfl, rfl⟩) ?_ ?_
            rotate_left
            ·simp only [Act.put, List.setIfInBounds_toArray, List.set_cons_zero, List.set_cons_succ, i64_w, i32_w]
             rfl
            refine pure_ (i := 17) (N := some 64) (v := ?_) (a' := ?_) #[true, true, true, true, true, true, true, true, true, true, true, true, true, true, true, true, true, true] rfl rfl (any_of HT_.out (by kernel_rfl)) (fun _ _ _ h => h) (Or.inl ⟨by rfl, ?_⟩) ?_ ?_
            rotate_left
            ·intro w'
             go_simp
             with_reducible rfl
            rotate_left
            ·simp only [Act.put, List.setIfInBounds_toArray, List.set_cons_zero, List.set_cons_succ, i64_w, i32_w]
             rfl
            refine done_ (done_of HT_.out (by kernel_rfl)) ?_
            try go_wp2
            go_ret
            exact ⟨by (rfl), by repeat (((with_reducible (exact HB.out))))⟩
          ·rw [if_neg c43] at H
           exact absurd H (by simp)
         ·rw [if_neg c42] at H
          exact absurd H (by simp)
        ·rw [if_neg c41] at H
         have c41b0 : decide (x6_2 < (qb.length : Int)) = false := decide_eq_false c41
         clear c41
         by_cases c73 : (qb.length : Int) = 0
         ·rw [if_pos c73] at H
          have c73b0 : ((qb.length : Int) == 0) = true := beq_iff_eq.mpr c73
          have c73b1 : ((qb.length : Int) != 0) = false := bne_eq_false_iff_eq.mpr c73
          clear c73
          obtain rfl := Option.some.inj H
          obtain ⟨qcm, qcf, qbn⟩ := Kd.S_slice HO_3.out
          subst qbn
          go_wp2
          go_ret
          exact ⟨by (rfl), by repeat (((with_reducible (exact HB.out))))⟩
         ·rw [if_neg c73] at H
          have c73b0 : ((qb.length : Int) == 0) = false := beq_eq_false_iff_ne.mpr c73
          have c73b1 : ((qb.length : Int) != 0) = true := bne_iff_ne.mpr c73
          have c73b2 : ¬ (qb = []) := fun h_ => c73 (by rw [h_]; rfl)
          replace H := Option.bind_eq_some_iff.mp H
          obtain ⟨qav, A750, H⟩ := H
          replace H : (some qav) = some r := H
          have A75 := Aside0.mk A750
          clear A750
          obtain rfl := Option.some.inj H
          obtain ⟨qcu, qcd, qbf⟩ := Kd.S_slice HO_3.out
          subst qbf
          have hnb77 := qz.out
          have hnc77 := qt.out
          have hcz78_0 : wr.cell? ⟨qd, 0, none⟩ = some (.bool a0_0) := (blk_cell qh.out 0).trans rfl
          have hcz78_1 : wr.cell? ⟨qd, 1, none⟩ = some (qr) := (blk_cell qh.out 1).trans rfl
          have hcz78_2 : wr.cell? ⟨qd, 2, none⟩ = some (qj) := (blk_cell qh.out 2).trans rfl
          have hfz78_0 := blk_frozen qh.out 0
          have hfz78_1 := blk_frozen qh.out 1
          have hfz78_2 := blk_frozen qh.out 2
          have hcz79_0 : wr.cell? ⟨qf, 0, none⟩ = some (.bool a0_0) := (blk_cell qc.out 0).trans rfl
          have hcz79_1 : wr.cell? ⟨qf, 1, none⟩ = some (.slice A0_1 l0_1.length c0_1) := (blk_cell qc.out 1).trans rfl
          have hcz79_2 : wr.cell? ⟨qf, 2, none⟩ = some (.slice A0_2 l0_2.length c0_2) := (blk_cell qc.out 2).trans rfl
          have hfz79_0 := blk_frozen qc.out 0
          have hfz79_1 := blk_frozen qc.out 1
          have hfz79_2 := blk_frozen qc.out 2
          obtain ⟨qbq, qbr, qbv⟩ := Kd.R_slice qi.out
          subst qbv
          obtain ⟨qbl, qbs, qbi⟩ := Kd.R_slice qg.out
          subst qbi
          go_wp2_with (first | (go_at_call 21; (with_reducible refine (coppiceref06_Same.calls k2 a0_0 _ _ qo _ _ qn a0_0 _ _ l0_1 _ _ l0_2 qav _ ?side1 ?side2 ?side3 ?side4 ?side5 ?side6 ?side7 ?side8 A75.out).mono ?_); (case side1 => repeat ((exact (Kd.R_reads' qi.out).2.2))); (case side2 => exact (Kd.R_reads' qi.out).2.1); (case side3 => repeat ((exact (Kd.R_reads' qg.out).2.2))); (case side4 => exact (Kd.R_reads' qg.out).2.1); (case side5 => repeat ((exact (Kd.C_below HR0_1.out HB.out)))); (case side6 => exact HC0_1.out); (case side7 => repeat ((exact (Kd.C_below HR0_2.out HB.out)))); (case side8 => exact HC0_2.out); rintro e w82 ⟨rfl, hb⟩; have n0_ := Aside0.mk (Kd.S_below (by exact HO_3.out) hb); have n1_ := Aside0.mk (Kd.S_below (by exact HO_4.out) hb); have n2_ := Aside0.mk (Kd.R_below (by exact qi.out) hb); have n3_ := Aside0.mk (Kd.R_below (by exact qg.out) hb); have n4_ := Aside0.mk (blk_below (g := qf) (o := .cells #[.bool a0_0, .slice A0_1 l0_1.length c0_1, .slice A0_2 l0_2.length c0_2] 25 (0, 0)) (by exact qc.out) hb); have n5_ := Aside0.mk (blk_below (g := qd) (o := .cells #[.bool a0_0, .slice qbq qo.length qbr, .slice qbl qn.length qbs] 25 (0, 0)) (by exact qh.out) hb); have n6_ := Aside0.mk (below_step (by repeat (((with_reducible (exact HB.out))))) hb); clear HO_3; clear HO_4; clear qi; clear qg; clear qc; clear qh; clear HB; have HO_3 := n0_; have HO_4 := n1_; have qi := n2_; have qg := n3_; have qc := n4_; have qh := n5_; have HB := n6_; clear n0_ n1_ n2_ n3_ n4_ n5_ n6_; (try clear hb); (try clear hb2); (try clear hk); (try clear hi)))
          go_ret
          exact ⟨by (rfl), by repeat (((with_reducible (exact HB.out))))⟩
 ·replace c3 := Bool.eq_false_iff.mpr c3
  subst c3
  have H1 : (some false) = some r := by rw [if_neg (show ¬ (false = true) by decide)] at H; exact H
  clear H
  have H := H1
  clear H1
  obtain rfl := Option.some.inj H
  go_enter Try.func5, Try.ntmps5
  go_wp2_with (first | ((with_reducible refine gate_dst (N := 1) rfl ?_); (try (refine gate_guard (by rfl) ?_; dsimp only)); refine box_event ?hg (N := 1) ?hd (cs := #[.bool a0_0, .slice A0_1 l0_1.length c0_1, .slice A0_2 l0_2.length c0_2]) (t := 25) ?hr ?_; (case hd => rfl); (case hg => rfl); (case hr => ((go_simp; done))); intro qf hg w83 hbox hb; have n0_ := Aside0.mk (below_step (by repeat (((with_reducible (exact HB.out))))) hb); have n1_ := Aside0.mk (hbox); have n2_ := Aside0.mk ((by rw [hg]; exact (below_size (by repeat (((with_reducible (exact HB.out)))))) : w.heap.size ≤ qf)); have n3_ := Aside0.mk ((by rw [hg]; exact (below_size (by repeat (((with_reducible (exact HB.out)))))) : w.heap.size ≤ qf)); clear HB; have HB := n0_; have qc := n1_; have GW245 := n2_; have qat := n3_; clear n0_ n1_ n2_ n3_; clear hb hbox hg) | ((with_reducible refine gate_callee (f := 9) rfl ?_); refine goesL_ (some 7) rfl rfl Try.func9 (by kernel_rfl) rfl #[] rfl (by (try simp only [List.map_toArray, List.map_cons, List.map_nil]); (done)) ?_; (with_reducible refine (coppicelaw06_awake.calls  false _ A2.out).mono ?_); rintro e w84 ⟨rfl, hb⟩; refine ⟨_, rfl, ?_⟩; have n0_ := Aside0.mk (blk_below (g := qf) (o := .cells #[.bool a0_0, .slice A0_1 l0_1.length c0_1, .slice A0_2 l0_2.length c0_2] 25 (0, 0)) (by exact qc.out) hb); have n1_ := Aside0.mk (below_step (by repeat (((with_reducible (exact HB.out))))) hb); clear qc; clear HB; have qc := n0_; have HB := n1_; clear n0_ n1_; (try clear hb); (try clear hb2); (try clear hk); (try clear hi)))
  go_ret
  exact ⟨by (rfl), by repeat (((with_reducible (exact HB.out))))⟩

/-- The bounds of a value of struct type 44. -/
def wf44 (x : S44) : Prop := x.f0.size ≤ maxLen ∧ x.f1.size ≤ maxLen
/-- The bounds of a value of struct type 46. -/
def wf46 (x : S46) : Prop := x.f0.size ≤ maxLen ∧ (Lit.int .i64 x.f1).wf = true
/-- The bounds of a value of struct type 25. -/
def wf25 (x : S25) : Prop := True ∧ (x.f1.length ≤ maxLen ∧ ∀ y0 ∈ x.f1, wf44 y0) ∧ (x.f2.length ≤ maxLen ∧ ∀ y0 ∈ x.f2, wf46 y0)
/-- THE ONE PURE STATEMENT of coppicelaw06_NodeSplits. -/
def coppicelaw06_NodeSplits.Pure : Prop := ∀ (x0 : S25), wf25 x0 → ∃ k, coppicelaw06_NodeSplits.f k x0.f0 x0.f1 x0.f2 = some true

end Go.Proofs.Ytdkbikaheagbfaa.PT
