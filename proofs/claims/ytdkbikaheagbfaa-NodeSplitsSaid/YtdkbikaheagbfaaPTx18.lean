-- WRITTEN BY a program of this session (pp.sh)
import Derived.Test.YtdkbikaheagbfaaPTx0
import Derived.Test.YtdkbikaheagbfaaPTx16
import Derived.Test.YtdkbikaheagbfaaPTx17
namespace Go.Proofs.Ytdkbikaheagbfaa.PT
open Go.RowKit Go.Proofs.YtdkbikaheagbfaaW.PrintWords Go.Proofs.YtdkbikaheagbfaaW.PrintLast Go.Proofs.YtdkbikaheagbfaaW.PrintMore Go.Proofs.Ytdkbikaheagbfaa.Plain
attribute [local go_sem] max2_int min2_int max_two min_two max_three min_three max_four min_four binOp_leq_s binOp_gtr_s binOp_geq_s lit_byte   -- for this text's walks alone
set_option linter.unusedVariables false
set_option linter.unusedSimpArgs false

/-! ### coppiceref06_Split: function 20 -/
mutual
def coppiceref06_Split.l0 : Nat → List (S25) → Int → Bool → List (S44) → List (S46) → Bool → List (S44) → List (S46) → Option ((List (S25)))
 | 0, _, _, _, _, _, _, _, _ => none
 | k + 1, x3, x5, x200000, x200001, x200002, x202000, x202001, x202002 => if x5 < (wrap64 ((x200001.length : Int) + (x200002.length : Int))) then ((some (([] : List (S44)) : List (S44))).bind fun y205 => (if y205.length + x202001.length < 4398046511104 then ((some (y205 ++ x202001 : List (S44))).bind fun y208 => ((some (([] : List (S46)) : List (S46))).bind fun y211 => (if y211.length + x202002.length < 5864062014805 then ((some (y211 ++ x202002 : List (S46))).bind fun y214 => (if x200000 = true then (if 0 ≤ x5 then (if x5 < (x200001.length : Int) then (if y208.length < 4398046511104 then (if ([] : List (S44)).length < 4398046511104 then (coppiceref06_Split.j1 k x3 x5 x200000 x200001 x200002 x202000 x202001 x202002 x200000 (y208 ++ [(⟨(rd_T44 x200001 x5).f0, (rd_T44 x200001 x5).f1⟩ : S44)]) y214 x200000 (([] : List (S44)) ++ [(⟨(rd_T44 x200001 x5).f0, (rd_T44 x200001 x5).f1⟩ : S44)]) ([] : List (S46))) else (none)) else (none)) else (none)) else (none)) else (if 0 ≤ x5 then (if x5 < (x200002.length : Int) then (if y214.length < 5864062014805 then (if ([] : List (S46)).length < 5864062014805 then (coppiceref06_Split.j1 k x3 x5 x200000 x200001 x200002 x202000 x202001 x202002 x200000 y208 (y214 ++ [(⟨(rd_T46 x200002 x5).f0, (rd_T46 x200002 x5).f1⟩ : S46)]) x200000 ([] : List (S44)) (([] : List (S46)) ++ [(⟨(rd_T46 x200002 x5).f0, (rd_T46 x200002 x5).f1⟩ : S46)])) else (none)) else (none)) else (none)) else (none)))) else (none)))) else (none))) else (if x3.length < 2513169434916 then (some (x3 ++ [(⟨x202000, x202001, x202002⟩ : S25)])) else (none))
def coppiceref06_Split.j1 : Nat → List (S25) → Int → Bool → List (S44) → List (S46) → Bool → List (S44) → List (S46) → Bool → List (S44) → List (S46) → Bool → List (S44) → List (S46) → Option ((List (S25)))
 | 0, _, _, _, _, _, _, _, _, _, _, _, _, _, _ => none
 | k + 1, x3, x5, x200000, x200001, x200002, x202000, x202001, x202002, x218000, x218001, x218002, x219000, x219001, x219002 => (coppiceref06_bytes.f k x218000 x218001 x218002).bind fun t235 => (if (t235.size : Int) > 1007 then (if x3.length < 2513169434916 then (coppiceref06_Split.l0 k (x3 ++ [(⟨x202000, x202001, x202002⟩ : S25)]) (wrap64 (x5 + 1)) x200000 x200001 x200002 x219000 x219001 x219002) else (none)) else (coppiceref06_Split.l0 k x3 (wrap64 (x5 + 1)) x200000 x200001 x200002 x218000 x218001 x218002))
end
def coppiceref06_Split.f (k : Nat) (a0_0 : Bool) (l0_1 : List (S44)) (l0_2 : List (S46)) : Option ((List (S25))) := (coppiceref06_Right.f k a0_0 l0_1 l0_2).bind fun t200 => (if t200 = true then (coppiceref06_Split.l0 k ([] : List (S25)) 0 a0_0 l0_1 l0_2 a0_0 ([] : List (S44)) ([] : List (S46))) else (some ([] : List (S25))))
theorem coppiceref06_Split.mono_l : ∀ k, (∀ y0 y1 y2 y3 y4 y5 y6 y7, LeO (coppiceref06_Split.l0 k y0 y1 y2 y3 y4 y5 y6 y7) (coppiceref06_Split.l0 (k + 1) y0 y1 y2 y3 y4 y5 y6 y7)) ∧ (∀ y0 y1 y2 y3 y4 y5 y6 y7 y8 y9 y10 y11 y12 y13, LeO (coppiceref06_Split.j1 k y0 y1 y2 y3 y4 y5 y6 y7 y8 y9 y10 y11 y12 y13) (coppiceref06_Split.j1 (k + 1) y0 y1 y2 y3 y4 y5 y6 y7 y8 y9 y10 y11 y12 y13))
 | 0 => ⟨fun _ _ _ _ _ _ _ _ r h => by simp [coppiceref06_Split.l0] at h, fun _ _ _ _ _ _ _ _ _ _ _ _ _ _ r h => by simp [coppiceref06_Split.j1] at h⟩
 | k + 1 => by
  obtain ⟨ih0, ih1⟩ := coppiceref06_Split.mono_l k
  refine ⟨?_, ?_⟩
  ·intro y0 y1 y2 y3 y4 y5 y6 y7
   unfold coppiceref06_Split.l0
   repeat' first
   | (with_reducible exact ih1 _ _ _ _ _ _ _ _ _ _ _ _ _ _)
   | (with_reducible exact LeO.refl _)
   | (with_reducible refine LeO.ite ?_ ?_)
   | (with_reducible refine LeO.bind ?_ (fun _ => ?_))
  ·intro y0 y1 y2 y3 y4 y5 y6 y7 y8 y9 y10 y11 y12 y13
   unfold coppiceref06_Split.j1
   repeat' first
   | (with_reducible exact ih0 _ _ _ _ _ _ _ _)
   | (with_reducible exact coppiceref06_bytes.mono _ _ _ _)
   | (with_reducible exact LeO.refl _)
   | (with_reducible refine LeO.ite ?_ ?_)
   | (with_reducible refine LeO.bind ?_ (fun _ => ?_))
theorem coppiceref06_Split.mono : ∀ a0 a1 a2 k, LeO (coppiceref06_Split.f k a0 a1 a2) (coppiceref06_Split.f (k + 1) a0 a1 a2) := by
 intro a0 a1 a2 k
 obtain ⟨ih0, ih1⟩ := coppiceref06_Split.mono_l k
 unfold coppiceref06_Split.f
 repeat' first
   | (with_reducible exact ih0 _ _ _ _ _ _ _ _)
   | (with_reducible exact coppiceref06_Right.mono _ _ _ _)
   | (with_reducible exact LeO.refl _)
   | (with_reducible refine LeO.ite ?_ ?_)
   | (with_reducible refine LeO.bind ?_ (fun _ => ?_))
def coppiceref06_Split.T8 : Bool × List (List Nat × List Nat) := (true, [([], []), ([0], [0]), ([], []), ([], []), ([3], [3]), ([2, 4], [2, 4]), ([], []), ([], []), ([7], [7]), ([6, 8, 5], [6, 8]), ([1, 5, 9], [1, 5, 9]), ([], []), ([11, 10, 9, 0, 1, 2, 3, 4, 5, 6, 7, 8, 9, 10, 11], [10, 11])])
def coppiceref06_Split.B8 : List Nat := [0, 1, 0, 0, 8, 28, 0, 0, 128, 508, 1023, 0, 4095]
theorem coppiceref06_Split.tab8 : rtab .any (opsOf Try.f20 8) = coppiceref06_Split.T8 := by kernel_rfl
theorem coppiceref06_Split.bits8 : waitsOk coppiceref06_Split.T8.2 coppiceref06_Split.B8 = true := by kernel_rfl
def coppiceref06_Split.T11 : Bool × List (List Nat × List Nat) := (true, [([], []), ([0], [0]), ([], []), ([2], [2]), ([], []), ([3, 4], [3, 4]), ([5], [5]), ([6], [6]), ([1, 7], [1, 7]), ([0, 1, 2, 3, 4, 5, 6, 7, 8], []), ([9, 8, 8, 0, 1, 2, 3, 4, 5, 6, 7, 8], [8, 9])])
def coppiceref06_Split.B11 : List Nat := [0, 1, 0, 4, 0, 28, 60, 124, 255, 511, 1023]
theorem coppiceref06_Split.tab11 : rtab .any (opsOf Try.f20 11) = coppiceref06_Split.T11 := by kernel_rfl
theorem coppiceref06_Split.bits11 : waitsOk coppiceref06_Split.T11.2 coppiceref06_Split.B11 = true := by kernel_rfl
def coppiceref06_Split.T12 : Bool × List (List Nat × List Nat) := (true, [([], []), ([0], [0]), ([], []), ([2], [2]), ([], []), ([3, 4], [3, 4]), ([5], [5]), ([6], [6]), ([1, 7], [1, 7]), ([0, 1, 2, 3, 4, 5, 6, 7, 8], []), ([9, 8, 8, 0, 1, 2, 3, 4, 5, 6, 7, 8], [8, 9])])
def coppiceref06_Split.B12 : List Nat := [0, 1, 0, 4, 0, 28, 60, 124, 255, 511, 1023]
theorem coppiceref06_Split.tab12 : rtab .any (opsOf Try.f20 12) = coppiceref06_Split.T12 := by kernel_rfl
theorem coppiceref06_Split.bits12 : waitsOk coppiceref06_Split.T12.2 coppiceref06_Split.B12 = true := by kernel_rfl
def coppiceref06_Split.T13 : Bool × List (List Nat × List Nat) := (true, [([], []), ([0], [0]), ([], []), ([2], [2]), ([], []), ([3, 4], [3, 4]), ([5], [5]), ([6], [6]), ([1, 7], [1, 7]), ([0, 1, 2, 3, 4, 5, 6, 7, 8], []), ([9, 8, 8, 0, 1, 2, 3, 4, 5, 6, 7, 8], [8, 9])])
def coppiceref06_Split.B13 : List Nat := [0, 1, 0, 4, 0, 28, 60, 124, 255, 511, 1023]
theorem coppiceref06_Split.tab13 : rtab .any (opsOf Try.f20 13) = coppiceref06_Split.T13 := by kernel_rfl
theorem coppiceref06_Split.bits13 : waitsOk coppiceref06_Split.T13.2 coppiceref06_Split.B13 = true := by kernel_rfl
def coppiceref06_Split.T14 : Bool × List (List Nat × List Nat) := (true, [([], []), ([0], [0]), ([], []), ([2], [2]), ([], []), ([3, 4], [3, 4]), ([5], [5]), ([6], [6]), ([1, 7], [1, 7]), ([0, 1, 2, 3, 4, 5, 6, 7, 8], []), ([9, 8, 8, 0, 1, 2, 3, 4, 5, 6, 7, 8], [8, 9])])
def coppiceref06_Split.B14 : List Nat := [0, 1, 0, 4, 0, 28, 60, 124, 255, 511, 1023]
theorem coppiceref06_Split.tab14 : rtab .any (opsOf Try.f20 14) = coppiceref06_Split.T14 := by kernel_rfl
theorem coppiceref06_Split.bits14 : waitsOk coppiceref06_Split.T14.2 coppiceref06_Split.B14 = true := by kernel_rfl
set_option maxHeartbeats 8000000 in
set_option maxRecDepth 100000 in
theorem coppiceref06_Split.calls (k : Nat) (a0_0 : Bool) (A0_1 : Option Addr) (c0_1 : Nat) (l0_1 : List (S44)) (A0_2 : Option Addr) (c0_2 : Nat) (l0_2 : List (S46)) (r : List (S25)) (w : World) (hr0_1 : Kd.C k44 w A0_1 l0_1.length l0_1) (hc0_1 : l0_1.length ≤ c0_1) (hr0_2 : Kd.C k46 w A0_2 l0_2.length l0_2) (hc0_2 : l0_2.length ≤ c0_2) (h : coppiceref06_Split.f k a0_0 l0_1 l0_2 = some r) :
  Calls Try.prog 20 #[.agg #[.bool a0_0, .slice A0_1 l0_1.length c0_1, .slice A0_2 l0_2.length c0_2]] w fun e w' => ∃ v0_ : Value, e = .returned (v0_) ∧ Kd.S k25 25 w' w.heap.size (fun _ => True) v0_ r ∧ Below w.heap.size w w' := by
 have hu25 := Try.underlying25
 have hu44 := Try.underlying44
 have hu46 := Try.underlying46
 have HR0_1 := Aside0.mk hr0_1
 have HC0_1 := Aside0.mk hc0_1
 clear hr0_1 hc0_1
 have HR0_2 := Aside0.mk hr0_2
 have HC0_2 := Aside0.mk hc0_2
 clear hr0_2 hc0_2
 have HB := Aside0.mk (Below.refl w.heap.size w)
 have H : ((coppiceref06_Right.f k a0_0 l0_1 l0_2).bind fun qde => (if qde = true then (coppiceref06_Split.l0 k ([] : List (S25)) 0 a0_0 l0_1 l0_2 a0_0 ([] : List (S44)) ([] : List (S46))) else (some ([] : List (S25))))) = some r := h
 clear h
 replace H := Option.bind_eq_some_iff.mp H
 obtain ⟨qde, A20, H⟩ := H
 replace H : (if qde = true then (coppiceref06_Split.l0 k ([] : List (S25)) 0 a0_0 l0_1 l0_2 a0_0 ([] : List (S44)) ([] : List (S46))) else (some ([] : List (S25)))) = some r := H
 have A2 := Aside0.mk A20
 clear A20
 by_cases c3 : qde = true
 ·subst c3
  have H1 : (coppiceref06_Split.l0 k ([] : List (S25)) 0 a0_0 l0_1 l0_2 a0_0 ([] : List (S44)) ([] : List (S46))) = some r := by rw [if_pos rfl] at H; exact H
  clear H
  have H := H1
  clear H1
  have H' := Aside0.mk H
  clear H
  go_enter Try.func20, Try.ntmps20
  go_wp2_with (first | ((with_reducible refine gate_dst (N := 1) rfl ?_); refine box_event ?hg (N := 1) ?hd (cs := #[.bool a0_0, .slice A0_1 l0_1.length c0_1, .slice A0_2 l0_2.length c0_2]) (t := 25) ?hr ?_; (case hd => rfl); (case hg => rfl); (case hr => ((go_simp; done))); intro qh hg w4 hbox hb; have n0_ := Aside0.mk (below_step (by repeat (((with_reducible (exact HB.out))))) hb); have n1_ := Aside0.mk (hbox); have n2_ := Aside0.mk ((by rw [hg]; exact (below_size (by repeat (((with_reducible (exact HB.out)))))) : w.heap.size ≤ qh)); have n3_ := Aside0.mk ((by rw [hg]; exact (below_size (by repeat (((with_reducible (exact HB.out)))))) : w.heap.size ≤ qh)); clear HB; have HB := n0_; have qd := n1_; have GW199 := n2_; have qdz := n3_; clear n0_ n1_ n2_ n3_; clear hb hbox hg; have hcz5_0 : w4.cell? ⟨qh, 0, none⟩ = some (.bool a0_0) := (blk_cell qd.out 0).trans rfl; have hcz5_1 : w4.cell? ⟨qh, 1, none⟩ = some (.slice A0_1 l0_1.length c0_1) := (blk_cell qd.out 1).trans rfl; have hcz5_2 : w4.cell? ⟨qh, 2, none⟩ = some (.slice A0_2 l0_2.length c0_2) := (blk_cell qd.out 2).trans rfl; have hfz5_0 := blk_frozen qd.out 0; have hfz5_1 := blk_frozen qd.out 1; have hfz5_2 := blk_frozen qd.out 2) | ((with_reducible refine gate_callee (f := 28) rfl ?_); refine goesL_ (some 9) rfl rfl Try.func28 (by kernel_rfl) rfl #[.agg #[.bool a0_0, .slice A0_1 l0_1.length c0_1, .slice A0_2 l0_2.length c0_2]] rfl (by (try simp only [List.map_toArray, List.map_cons, List.map_nil]); (rfl)) ?_; (with_reducible refine (coppiceref06_Right.calls k a0_0 _ _ l0_1 _ _ l0_2 true _ ?side1 ?side2 ?side3 ?side4 A2.out).mono ?_); (case side1 => repeat ((exact (Kd.C_below HR0_1.out HB.out)))); (case side2 => exact HC0_1.out); (case side3 => repeat ((exact (Kd.C_below HR0_2.out HB.out)))); (case side4 => exact HC0_2.out); rintro e w6 ⟨rfl, hb⟩; refine ⟨_, rfl, ?_⟩; have n0_ := Aside0.mk (blk_below (g := qh) (o := .cells #[.bool a0_0, .slice A0_1 l0_1.length c0_1, .slice A0_2 l0_2.length c0_2] 25 (0, 0)) (by exact qd.out) hb); have n1_ := Aside0.mk (below_step (by repeat (((with_reducible (exact HB.out))))) hb); clear qd; clear HB; have qd := n0_; have HB := n1_; clear n0_ n1_; (try clear hb); (try clear hb2); (try clear hk); (try clear hi); have hcz7_0 : w6.cell? ⟨qh, 0, none⟩ = some (.bool a0_0) := (blk_cell qd.out 0).trans rfl; have hcz7_1 : w6.cell? ⟨qh, 1, none⟩ = some (.slice A0_1 l0_1.length c0_1) := (blk_cell qd.out 1).trans rfl; have hcz7_2 : w6.cell? ⟨qh, 2, none⟩ = some (.slice A0_2 l0_2.length c0_2) := (blk_cell qd.out 2).trans rfl; have hfz7_0 := blk_frozen qd.out 0; have hfz7_1 := blk_frozen qd.out 1; have hfz7_2 := blk_frozen qd.out 2) | ((with_reducible refine gate_dst (N := 4) rfl ?_); refine box_event ?hg (N := 4) ?hd (cs := #[.bool false, .slice none 0 0, .slice none 0 0]) (t := 25) ?hr ?_; (case hd => rfl); (case hg => rfl); (case hr => ((go_simp; done))); intro qi hg w8 hbox hb; have n0_ := Aside0.mk (blk_below (g := qh) (o := .cells #[.bool a0_0, .slice A0_1 l0_1.length c0_1, .slice A0_2 l0_2.length c0_2] 25 (0, 0)) (by exact qd.out) hb); have n1_ := Aside0.mk (below_step (by repeat (((with_reducible (exact HB.out))))) hb); have n2_ := Aside0.mk (hbox); have n3_ := Aside0.mk ((by rw [hg]; exact (below_size (by repeat (((with_reducible (exact HB.out)))))) : w.heap.size ≤ qi)); have n4_ := Aside0.mk ((by rw [hg]; exact (below_size (by repeat (((with_reducible (exact HB.out)))))) : w.heap.size ≤ qi)); have n5_ := Aside0.mk ((by rw [hg]; exact Nat.ne_of_lt (blk_lt (g := qh) (o := .cells #[.bool a0_0, .slice A0_1 l0_1.length c0_1, .slice A0_2 l0_2.length c0_2] 25 (0, 0)) (by exact qd.out)) : qh ≠ qi)); have n6_ := Aside0.mk ((by rw [hg]; exact Nat.ne_of_gt (blk_lt (g := qh) (o := .cells #[.bool a0_0, .slice A0_1 l0_1.length c0_1, .slice A0_2 l0_2.length c0_2] 25 (0, 0)) (by exact qd.out)) : qi ≠ qh)); clear qd; clear HB; have qd := n0_; have HB := n1_; have qg := n2_; have GW201 := n3_; have qct := n4_; have qap := n5_; have qbl := n6_; clear n0_ n1_ n2_ n3_ n4_ n5_ n6_; clear hb hbox hg; have hnb9 := qbl.out; have hnc9 := qap.out; have hcz10_0 : w8.cell? ⟨qi, 0, none⟩ = some (.bool false) := (blk_cell qg.out 0).trans rfl; have hcz10_1 : w8.cell? ⟨qi, 1, none⟩ = some (.slice none 0 0) := (blk_cell qg.out 1).trans rfl; have hcz10_2 : w8.cell? ⟨qi, 2, none⟩ = some (.slice none 0 0) := (blk_cell qg.out 2).trans rfl; have hfz10_0 := blk_frozen qg.out 0; have hfz10_1 := blk_frozen qg.out 1; have hfz10_2 := blk_frozen qg.out 2))
  go_loopg [3, 5] k (fun kq v3 v5 w' => ∃ (x3_1 : List (S25)) (x5_1 : Int) (qk : Bool) (qb : List (S44)) (qc : List (S46)) (qbp : Value) (qbo : Value), v5 = .int .i64 x5_1 ∧ Aside0 (coppiceref06_Split.l0 kq x3_1 x5_1 a0_0 l0_1 l0_2 qk qb qc = some r) ∧ Aside0 (kq ≤ k) ∧ Aside0 (Kd.S k25 25 w' w.heap.size (fun k_ => some k_ ≠ (qbp : Value).ownBlock ∧ some k_ ≠ (qbo : Value).ownBlock ∧ k_ ≠ qh ∧ k_ ≠ qi) v3 x3_1) ∧ Aside0 (Kd.R k44 44 w' w.heap.size (fun _ => True) qbp qb) ∧ Aside0 (Kd.R k46 46 w' w.heap.size (fun _ => True) qbo qc) ∧ Aside0 (w'.heap[qh]? = some (.cells #[.bool a0_0, (.slice A0_1 l0_1.length c0_1), (.slice A0_2 l0_2.length c0_2)] 25 (0, 0))) ∧ Aside0 (w'.heap[qi]? = some (.cells #[.bool qk, qbp, qbo] 25 (0, 0))) ∧ Aside0 (Below w.heap.size w w'))
  case atStart => exact ⟨(([] : List (S25))), (0), (a0_0), (([] : List (S44))), (([] : List (S46))), (.slice none 0 0), (.slice none 0 0), (by (rfl)), H', ⟨Nat.le_refl _⟩, ⟨by (exact Kd.S_nil _ _ _ _ _)⟩, ⟨by (exact Kd.R_nil _ _ _ _ _)⟩, ⟨by (exact Kd.R_nil _ _ _ _ _)⟩, ⟨by refine blk_far ?_ qap.out _; refine blk_far ?_ qap.out _; refine blk_far ?_ qap.out _; exact qd.out⟩, ⟨by refine blk_put (cs := #[.bool a0_0, .slice none 0 0, .slice none 0 0]) ?_ 2 _ rfl; refine blk_put (cs := #[.bool a0_0, .slice none 0 0, .slice none 0 0]) ?_ 1 _ rfl; refine blk_put (cs := #[.bool false, .slice none 0 0, .slice none 0 0]) ?_ 0 _ rfl; exact qg.out⟩, ⟨by repeat (((with_reducible first | exact HB.out | refine below_set ?_ qct.out)))⟩⟩
  case round =>
   clear H'
   try clear c2
   try clear p2
   try clear c3
   try clear c9
   try clear hcz10_0
   try clear hcz10_1
   try clear hcz10_2
   try clear hcz5_0
   try clear hcz5_1
   try clear hcz5_2
   try clear hcz7_0
   try clear hcz7_1
   try clear hcz7_2
   try clear hfz10_0
   try clear hfz10_1
   try clear hfz10_2
   try clear hfz5_0
   try clear hfz5_1
   try clear hfz5_2
   try clear hfz7_0
   try clear hfz7_1
   try clear hfz7_2
   obtain ⟨x3_1, x5_1, qk, qb, qc, qbp, qbo, rfl, HA, HK1, HO_3, qe, qf, qd, qg, HB⟩ := hrel
   cases gk with
   | zero => exact absurd HA.out (by simp [coppiceref06_Split.l0])
   | succ k1 =>
    have H := HA.out
    clear HA
    simp only [coppiceref06_Split.l0] at H
    by_cases c11 : x5_1 < (wrap64 ((l0_1.length : Int) + (l0_2.length : Int)))
    ·rw [if_pos c11] at H
     have c11b0 : decide (x5_1 < (wrap64 ((l0_1.length : Int) + (l0_2.length : Int)))) = true := decide_eq_true c11
     clear c11
     obtain ⟨qbi, qdc⟩ : ∃ y_ : List (S44), y_ = (([] : List (S44))) := ⟨_, rfl⟩
     replace H : (if qbi.length + qb.length < 4398046511104 then ((some (qbi ++ qb : List (S44))).bind fun qx => ((some (([] : List (S46)) : List (S46))).bind fun qbd => (if qbd.length + qc.length < 5864062014805 then ((some (qbd ++ qc : List (S46))).bind fun qaa => (if a0_0 = true then (if 0 ≤ x5_1 then (if x5_1 < (l0_1.length : Int) then (if qx.length < 4398046511104 then (if ([] : List (S44)).length < 4398046511104 then (coppiceref06_Split.j1 k1 x3_1 x5_1 a0_0 l0_1 l0_2 qk qb qc a0_0 (qx ++ [(⟨(rd_T44 l0_1 x5_1).f0, (rd_T44 l0_1 x5_1).f1⟩ : S44)]) qaa a0_0 (([] : List (S44)) ++ [(⟨(rd_T44 l0_1 x5_1).f0, (rd_T44 l0_1 x5_1).f1⟩ : S44)]) ([] : List (S46))) else (none)) else (none)) else (none)) else (none)) else (if 0 ≤ x5_1 then (if x5_1 < (l0_2.length : Int) then (if qaa.length < 5864062014805 then (if ([] : List (S46)).length < 5864062014805 then (coppiceref06_Split.j1 k1 x3_1 x5_1 a0_0 l0_1 l0_2 qk qb qc a0_0 qx (qaa ++ [(⟨(rd_T46 l0_2 x5_1).f0, (rd_T46 l0_2 x5_1).f1⟩ : S46)]) a0_0 ([] : List (S44)) (([] : List (S46)) ++ [(⟨(rd_T46 l0_2 x5_1).f0, (rd_T46 l0_2 x5_1).f1⟩ : S46)])) else (none)) else (none)) else (none)) else (none)))) else (none)))) else (none)) = some r := by ((have H2_ := (Option.bind_some _ _).symm.trans H; rw [qdc]; with_reducible exact H2_))
     have qch := Aside0.mk qdc
     clear qdc
     by_cases c12 : qbi.length + qb.length < 4398046511104
     ·rw [if_pos c12] at H
      have qcj := Aside0.mk c12
      clear c12
      obtain ⟨qx, qcw⟩ : ∃ y_ : List (S44), y_ = (qbi ++ qb) := ⟨_, rfl⟩
      replace H : ((some (([] : List (S46)) : List (S46))).bind fun qbd => (if qbd.length + qc.length < 5864062014805 then ((some (qbd ++ qc : List (S46))).bind fun qaa => (if a0_0 = true then (if 0 ≤ x5_1 then (if x5_1 < (l0_1.length : Int) then (if qx.length < 4398046511104 then (if ([] : List (S44)).length < 4398046511104 then (coppiceref06_Split.j1 k1 x3_1 x5_1 a0_0 l0_1 l0_2 qk qb qc a0_0 (qx ++ [(⟨(rd_T44 l0_1 x5_1).f0, (rd_T44 l0_1 x5_1).f1⟩ : S44)]) qaa a0_0 (([] : List (S44)) ++ [(⟨(rd_T44 l0_1 x5_1).f0, (rd_T44 l0_1 x5_1).f1⟩ : S44)]) ([] : List (S46))) else (none)) else (none)) else (none)) else (none)) else (if 0 ≤ x5_1 then (if x5_1 < (l0_2.length : Int) then (if qaa.length < 5864062014805 then (if ([] : List (S46)).length < 5864062014805 then (coppiceref06_Split.j1 k1 x3_1 x5_1 a0_0 l0_1 l0_2 qk qb qc a0_0 qx (qaa ++ [(⟨(rd_T46 l0_2 x5_1).f0, (rd_T46 l0_2 x5_1).f1⟩ : S46)]) a0_0 ([] : List (S44)) (([] : List (S46)) ++ [(⟨(rd_T46 l0_2 x5_1).f0, (rd_T46 l0_2 x5_1).f1⟩ : S46)])) else (none)) else (none)) else (none)) else (none)))) else (none))) = some r := by ((have H2_ := (Option.bind_some _ _).symm.trans H; rw [qcw]; with_reducible exact H2_))
      have qck := Aside0.mk qcw
      clear qcw
      obtain ⟨qbd, qcz⟩ : ∃ y_ : List (S46), y_ = (([] : List (S46))) := ⟨_, rfl⟩
      replace H : (if qbd.length + qc.length < 5864062014805 then ((some (qbd ++ qc : List (S46))).bind fun qaa => (if a0_0 = true then (if 0 ≤ x5_1 then (if x5_1 < (l0_1.length : Int) then (if qx.length < 4398046511104 then (if ([] : List (S44)).length < 4398046511104 then (coppiceref06_Split.j1 k1 x3_1 x5_1 a0_0 l0_1 l0_2 qk qb qc a0_0 (qx ++ [(⟨(rd_T44 l0_1 x5_1).f0, (rd_T44 l0_1 x5_1).f1⟩ : S44)]) qaa a0_0 (([] : List (S44)) ++ [(⟨(rd_T44 l0_1 x5_1).f0, (rd_T44 l0_1 x5_1).f1⟩ : S44)]) ([] : List (S46))) else (none)) else (none)) else (none)) else (none)) else (if 0 ≤ x5_1 then (if x5_1 < (l0_2.length : Int) then (if qaa.length < 5864062014805 then (if ([] : List (S46)).length < 5864062014805 then (coppiceref06_Split.j1 k1 x3_1 x5_1 a0_0 l0_1 l0_2 qk qb qc a0_0 qx (qaa ++ [(⟨(rd_T46 l0_2 x5_1).f0, (rd_T46 l0_2 x5_1).f1⟩ : S46)]) a0_0 ([] : List (S44)) (([] : List (S46)) ++ [(⟨(rd_T46 l0_2 x5_1).f0, (rd_T46 l0_2 x5_1).f1⟩ : S46)])) else (none)) else (none)) else (none)) else (none)))) else (none)) = some r := by ((have H2_ := (Option.bind_some _ _).symm.trans H; rw [qcz]; with_reducible exact H2_))
      have qca := Aside0.mk qcz
      clear qcz
      by_cases c13 : qbd.length + qc.length < 5864062014805
      ·rw [if_pos c13] at H
       have qdq := Aside0.mk c13
       clear c13
       obtain ⟨qaa, qcr⟩ : ∃ y_ : List (S46), y_ = (qbd ++ qc) := ⟨_, rfl⟩
       replace H : (if a0_0 = true then (if 0 ≤ x5_1 then (if x5_1 < (l0_1.length : Int) then (if qx.length < 4398046511104 then (if ([] : List (S44)).length < 4398046511104 then (coppiceref06_Split.j1 k1 x3_1 x5_1 a0_0 l0_1 l0_2 qk qb qc a0_0 (qx ++ [(⟨(rd_T44 l0_1 x5_1).f0, (rd_T44 l0_1 x5_1).f1⟩ : S44)]) qaa a0_0 (([] : List (S44)) ++ [(⟨(rd_T44 l0_1 x5_1).f0, (rd_T44 l0_1 x5_1).f1⟩ : S44)]) ([] : List (S46))) else (none)) else (none)) else (none)) else (none)) else (if 0 ≤ x5_1 then (if x5_1 < (l0_2.length : Int) then (if qaa.length < 5864062014805 then (if ([] : List (S46)).length < 5864062014805 then (coppiceref06_Split.j1 k1 x3_1 x5_1 a0_0 l0_1 l0_2 qk qb qc a0_0 qx (qaa ++ [(⟨(rd_T46 l0_2 x5_1).f0, (rd_T46 l0_2 x5_1).f1⟩ : S46)]) a0_0 ([] : List (S44)) (([] : List (S46)) ++ [(⟨(rd_T46 l0_2 x5_1).f0, (rd_T46 l0_2 x5_1).f1⟩ : S46)])) else (none)) else (none)) else (none)) else (none))) = some r := by ((have H2_ := (Option.bind_some _ _).symm.trans H; rw [qcr]; with_reducible exact H2_))
       have qdn := Aside0.mk qcr
       clear qcr
       have qdk := Aside0.mk H
       clear H
       have hnb15 := qap.out
       have hnc15 := qbl.out
       have hcz16_0 : wr.cell? ⟨qh, 0, none⟩ = some (.bool a0_0) := (blk_cell qd.out 0).trans rfl
       have hcz16_1 : wr.cell? ⟨qh, 1, none⟩ = some (.slice A0_1 l0_1.length c0_1) := (blk_cell qd.out 1).trans rfl
       have hcz16_2 : wr.cell? ⟨qh, 2, none⟩ = some (.slice A0_2 l0_2.length c0_2) := (blk_cell qd.out 2).trans rfl
       have hfz16_0 := blk_frozen qd.out 0
       have hfz16_1 := blk_frozen qd.out 1
       have hfz16_2 := blk_frozen qd.out 2
       obtain ⟨qm, qn, qez⟩ := Kd.R_slice qe.out
       subst qez
       obtain ⟨qp, qo, qes⟩ := Kd.R_slice qf.out
       subst qes
       try go_wp2
       have n0_ := Aside0.mk (Kd.S_drew HO_3.out)
       have n1_ := Aside0.mk (Kd.R_drew qe.out)
       have n2_ := Aside0.mk (Kd.R_drew qf.out)
       have n3_ := Aside0.mk (blk_drew qd.out)
       have n4_ := Aside0.mk (blk_drew qg.out)
       have n5_ := Aside0.mk (below_drew1 HB.out)
       clear HO_3 qe qf qd qg HB
       have HO_3 := n0_
       have qe := n1_
       have qf := n2_
       have qd := n3_
       have qg := n4_
       have HB := n5_
       clear n0_ n1_ n2_ n3_ n4_ n5_
       refine start_ (n := 13) (S := fun w' => w'.cell? ⟨qh, 0, none⟩ = some (.bool a0_0) ∧ w'.cell? ⟨qh, 1, none⟩ = some (.slice A0_1 l0_1.length c0_1) ∧ w'.cell? ⟨qh, 2, none⟩ = some (.slice A0_2 l0_2.length c0_2) ∧ w'.cell? ⟨qi, 0, none⟩ = some (.bool qk) ∧ w'.cell? ⟨qi, 1, none⟩ = some (.slice qm qb.length qn) ∧ w'.cell? ⟨qi, 2, none⟩ = some (.slice qp qc.length qo)) (ds := []) #[false, false, false, false, false, false, false, false, false, false, false, false, false] (by kernel_rfl) rfl rfl ⟨(blk_cell qd.out 0).trans rfl, (blk_cell qd.out 1).trans rfl, (blk_cell qd.out 2).trans rfl, (blk_cell qg.out 0).trans rfl, (blk_cell qg.out 1).trans rfl, (blk_cell qg.out 2).trans rfl⟩ (fun hHeld => ?_); refine with_tabW coppiceref06_Split.tab8 coppiceref06_Split.bits8 (fun HT_ HW_ => ?_)
       generalize wr.drew = w19 at HO_3 qe qf qd qg HB hHeld ⊢
       refine pure_ (i := 0) (N := some 25) (v := ?_) (a' := ?_) #[true, false, false, false, false, false, false, false, false, false, false, false, false] rfl rfl (any_of HT_.out (by kernel_rfl)) (fun _ _ _ h => h) (Or.inl ⟨by rfl, ?_⟩) ?_ ?_
       rotate_left
       ·intro w'
        go_simp
        with_reducible rfl
       rotate_left
       ·simp only [Act.put, List.setIfInBounds_toArray, List.set_cons_zero, List.set_cons_succ, i64_w, i32_w]
        rfl
       refine pure_ (i := 3) (N := some 28) (v := ?_) (a' := ?_) #[true, false, false, true, false, false, false, false, false, false, false, false, false] rfl rfl (any_of HT_.out (by kernel_rfl)) (fun _ _ _ h => h) (Or.inl ⟨by rfl, ?_⟩) ?_ ?_
       rotate_left
       ·intro w'
        go_simp
        with_reducible rfl
       rotate_left
       ·simp only [Act.put, List.setIfInBounds_toArray, List.set_cons_zero, List.set_cons_succ, i64_w, i32_w]
        rfl
       refine pure_ (i := 7) (N := some 32) (v := ?_) (a' := ?_) #[true, false, false, true, false, false, false, true, false, false, false, false, false] rfl rfl (any_of HT_.out (by kernel_rfl)) (fun _ _ _ h => h) (Or.inl ⟨by rfl, ?_⟩) ?_ ?_
       rotate_left
       ·intro w'
        go_simp
        with_reducible rfl
       rotate_left
       ·simp only [Act.put, List.setIfInBounds_toArray, List.set_cons_zero, List.set_cons_succ, i64_w, i32_w]
        rfl
       refine take_ (i := 1) (N := some 26) (v := ?_) (a' := ?_) #[true, true, false, true, false, false, false, true, false, false, false, false, false] rfl rfl (take_ofW HT_.out HW_.out (by kernel_rfl)) (fun _ _ _ h => h) (Or.inl ⟨by rfl, ?_⟩) hHeld ?_ ?_
       rotate_left
       ·rintro w' ⟨s0, s1, s2, s3, s4, s5⟩
        go_simp
        with_reducible rfl
       rotate_left
       ·simp only [Act.put, List.setIfInBounds_toArray, List.set_cons_zero, List.set_cons_succ, i64_w, i32_w]
        rfl
       refine take_ (i := 4) (N := some 29) (v := ?_) (a' := ?_) #[true, true, false, true, true, false, false, true, false, false, false, false, false] rfl rfl (take_ofW HT_.out HW_.out (by kernel_rfl)) (fun _ _ _ h => h) (Or.inl ⟨by rfl, ?_⟩) hHeld ?_ ?_
       rotate_left
       ·rintro w' ⟨s0, s1, s2, s3, s4, s5⟩
        go_simp
        with_reducible rfl
       rotate_left
       ·simp only [Act.put, List.setIfInBounds_toArray, List.set_cons_zero, List.set_cons_succ, i64_w, i32_w]
        rfl
       refine take_ (i := 8) (N := some 33) (v := ?_) (a' := ?_) #[true, true, false, true, true, false, false, true, true, false, false, false, false] rfl rfl (take_ofW HT_.out HW_.out (by kernel_rfl)) (fun _ _ _ h => h) (Or.inl ⟨by rfl, ?_⟩) hHeld ?_ ?_
       rotate_left
       ·rintro w' ⟨s0, s1, s2, s3, s4, s5⟩
        go_simp
        with_reducible rfl
       rotate_left
       ·simp only [Act.put, List.setIfInBounds_toArray, List.set_cons_zero, List.set_cons_succ, i64_w, i32_w]
        rfl
       refine join_ (σ := Value × Value × Value × Value × Nat) 1 #[true, true, true, true, true, true, true, true, true, true, true, true, false] (fun s_ => [(27, s_.1), (30, s_.2.1), (31, s_.2.2.1), (34, s_.2.2.2.1), (6, .pointer (some ⟨s_.2.2.2.2, 0, none⟩)), (35, .agg #[.bool a0_0, s_.2.1, s_.2.2.2.1])]) (fun s_ w' => (w'.cell? ⟨qh, 0, none⟩ = some (.bool a0_0) ∧ w'.cell? ⟨qh, 1, none⟩ = some (.slice A0_1 l0_1.length c0_1) ∧ w'.cell? ⟨qh, 2, none⟩ = some (.slice A0_2 l0_2.length c0_2) ∧ w'.cell? ⟨qi, 0, none⟩ = some (.bool qk) ∧ w'.cell? ⟨qi, 1, none⟩ = some (.slice qm qb.length qn) ∧ w'.cell? ⟨qi, 2, none⟩ = some (.slice qp qc.length qo)) ∧ (Kd.R k44 44 w' w.heap.size (fun k_ => some k_ ≠ (.slice qm qb.length qn : Value).ownBlock) s_.2.1 qx) ∧ (Kd.R k46 46 w' w.heap.size (fun k_ => some k_ ≠ (.slice qp qc.length qo : Value).ownBlock) s_.2.2.2.1 qaa) ∧ (Kd.R k44 44 w' w.heap.size (fun k_ => some k_ ≠ (s_.2.1 : Value).ownBlock) (.slice qm qb.length qn) qb) ∧ (Kd.R k46 46 w' w.heap.size (fun k_ => some k_ ≠ (s_.2.2.2.1 : Value).ownBlock) (.slice qp qc.length qo) qc) ∧ (Kd.S k25 25 w' w.heap.size (fun k_ => some k_ ≠ (s_.2.1 : Value).ownBlock ∧ some k_ ≠ (s_.2.2.2.1 : Value).ownBlock ∧ some k_ ≠ (.slice qm qb.length qn : Value).ownBlock ∧ some k_ ≠ (.slice qp qc.length qo : Value).ownBlock ∧ k_ ≠ qh ∧ k_ ≠ qi ∧ k_ ≠ s_.2.2.2.2) u3 x3_1) ∧ (w'.heap[qh]? = some (.cells #[.bool a0_0, .slice A0_1 l0_1.length c0_1, .slice A0_2 l0_2.length c0_2] 25 (0, 0))) ∧ (w'.heap[qi]? = some (.cells #[.bool qk, .slice qm qb.length qn, .slice qp qc.length qo] 25 (0, 0))) ∧ (w'.heap[s_.2.2.2.2]? = some (.cells #[.bool false, .slice none 0 0, .slice none 0 0] 25 (0, 0))) ∧ (w.heap.size ≤ s_.2.2.2.2) ∧ (w.heap.size ≤ s_.2.2.2.2) ∧ (qh ≠ s_.2.2.2.2) ∧ (s_.2.2.2.2 ≠ qh) ∧ (qi ≠ s_.2.2.2.2) ∧ (s_.2.2.2.2 ≠ qi) ∧ (Below w.heap.size w w')) ?_ ?_
       rotate_left
       ·intro hJ2_5_6_9_11
        refine join_ (σ := Value × Value × Value × Value) 2 #[true, true, true, true, true, true, true, true, true, true, true, false, false] (fun s_ => [(27, s_.1), (30, s_.2.1), (31, s_.2.2.1), (34, s_.2.2.2), (35, .agg #[.bool a0_0, s_.2.1, s_.2.2.2])]) (fun s_ w' => (w'.cell? ⟨qh, 0, none⟩ = some (.bool a0_0) ∧ w'.cell? ⟨qh, 1, none⟩ = some (.slice A0_1 l0_1.length c0_1) ∧ w'.cell? ⟨qh, 2, none⟩ = some (.slice A0_2 l0_2.length c0_2) ∧ w'.cell? ⟨qi, 0, none⟩ = some (.bool qk) ∧ w'.cell? ⟨qi, 1, none⟩ = some (.slice qm qb.length qn) ∧ w'.cell? ⟨qi, 2, none⟩ = some (.slice qp qc.length qo)) ∧ (Kd.R k44 44 w' w.heap.size (fun k_ => some k_ ≠ (.slice qm qb.length qn : Value).ownBlock) s_.2.1 qx) ∧ (Kd.R k46 46 w' w.heap.size (fun k_ => some k_ ≠ (.slice qp qc.length qo : Value).ownBlock) s_.2.2.2 qaa) ∧ (Kd.R k44 44 w' w.heap.size (fun k_ => some k_ ≠ (s_.2.1 : Value).ownBlock) (.slice qm qb.length qn) qb) ∧ (Kd.R k46 46 w' w.heap.size (fun k_ => some k_ ≠ (s_.2.2.2 : Value).ownBlock) (.slice qp qc.length qo) qc) ∧ (Kd.S k25 25 w' w.heap.size (fun k_ => some k_ ≠ (s_.2.1 : Value).ownBlock ∧ some k_ ≠ (s_.2.2.2 : Value).ownBlock ∧ some k_ ≠ (.slice qm qb.length qn : Value).ownBlock ∧ some k_ ≠ (.slice qp qc.length qo : Value).ownBlock ∧ k_ ≠ qh ∧ k_ ≠ qi) u3 x3_1) ∧ (w'.heap[qh]? = some (.cells #[.bool a0_0, .slice A0_1 l0_1.length c0_1, .slice A0_2 l0_2.length c0_2] 25 (0, 0))) ∧ (w'.heap[qi]? = some (.cells #[.bool qk, .slice qm qb.length qn, .slice qp qc.length qo] 25 (0, 0))) ∧ (Below w.heap.size w w')) ?_ ?_
        rotate_left
        ·intro hJ2_5_6_9
         refine join_ (σ := Value × Value × Value × Nat) 3 #[true, true, true, true, true, true, true, true, true, false, false, true, false] (fun s_ => [(27, s_.1), (30, s_.2.1), (31, s_.2.2.1), (6, .pointer (some ⟨s_.2.2.2, 0, none⟩))]) (fun s_ w' => (w'.cell? ⟨qh, 0, none⟩ = some (.bool a0_0) ∧ w'.cell? ⟨qh, 1, none⟩ = some (.slice A0_1 l0_1.length c0_1) ∧ w'.cell? ⟨qh, 2, none⟩ = some (.slice A0_2 l0_2.length c0_2) ∧ w'.cell? ⟨qi, 0, none⟩ = some (.bool qk) ∧ w'.cell? ⟨qi, 1, none⟩ = some (.slice qm qb.length qn) ∧ w'.cell? ⟨qi, 2, none⟩ = some (.slice qp qc.length qo)) ∧ (Kd.R k44 44 w' w.heap.size (fun k_ => some k_ ≠ (.slice qm qb.length qn : Value).ownBlock) s_.2.1 qx) ∧ (Kd.R k46 46 w' w.heap.size (fun k_ => some k_ ≠ (.slice qp qc.length qo : Value).ownBlock) s_.2.2.1 qbd) ∧ (Kd.R k44 44 w' w.heap.size (fun k_ => some k_ ≠ (s_.2.1 : Value).ownBlock) (.slice qm qb.length qn) qb) ∧ (Kd.R k46 46 w' w.heap.size (fun k_ => some k_ ≠ (s_.2.2.1 : Value).ownBlock) (.slice qp qc.length qo) qc) ∧ (Kd.S k25 25 w' w.heap.size (fun k_ => some k_ ≠ (s_.2.1 : Value).ownBlock ∧ some k_ ≠ (s_.2.2.1 : Value).ownBlock ∧ some k_ ≠ (.slice qm qb.length qn : Value).ownBlock ∧ some k_ ≠ (.slice qp qc.length qo : Value).ownBlock ∧ k_ ≠ qh ∧ k_ ≠ qi ∧ k_ ≠ s_.2.2.2) u3 x3_1) ∧ (w'.heap[qh]? = some (.cells #[.bool a0_0, .slice A0_1 l0_1.length c0_1, .slice A0_2 l0_2.length c0_2] 25 (0, 0))) ∧ (w'.heap[qi]? = some (.cells #[.bool qk, .slice qm qb.length qn, .slice qp qc.length qo] 25 (0, 0))) ∧ (w'.heap[s_.2.2.2]? = some (.cells #[.bool false, .slice none 0 0, .slice none 0 0] 25 (0, 0))) ∧ (w.heap.size ≤ s_.2.2.2) ∧ (w.heap.size ≤ s_.2.2.2) ∧ (qh ≠ s_.2.2.2) ∧ (s_.2.2.2 ≠ qh) ∧ (qi ≠ s_.2.2.2) ∧ (s_.2.2.2 ≠ qi) ∧ (Below w.heap.size w w')) ?_ ?_
         rotate_left
         ·intro hJ2_5_6_11
          refine join_ (σ := Value × Value × Value) 4 #[true, true, true, true, true, true, true, true, true, false, false, false, false] (fun s_ => [(27, s_.1), (30, s_.2.1), (31, s_.2.2)]) (fun s_ w' => (w'.cell? ⟨qh, 0, none⟩ = some (.bool a0_0) ∧ w'.cell? ⟨qh, 1, none⟩ = some (.slice A0_1 l0_1.length c0_1) ∧ w'.cell? ⟨qh, 2, none⟩ = some (.slice A0_2 l0_2.length c0_2) ∧ w'.cell? ⟨qi, 0, none⟩ = some (.bool qk) ∧ w'.cell? ⟨qi, 1, none⟩ = some (.slice qm qb.length qn) ∧ w'.cell? ⟨qi, 2, none⟩ = some (.slice qp qc.length qo)) ∧ (Kd.R k44 44 w' w.heap.size (fun k_ => some k_ ≠ (.slice qm qb.length qn : Value).ownBlock) s_.2.1 qx) ∧ (Kd.R k46 46 w' w.heap.size (fun k_ => some k_ ≠ (.slice qp qc.length qo : Value).ownBlock) s_.2.2 qbd) ∧ (Kd.R k44 44 w' w.heap.size (fun k_ => some k_ ≠ (s_.2.1 : Value).ownBlock) (.slice qm qb.length qn) qb) ∧ (Kd.R k46 46 w' w.heap.size (fun k_ => some k_ ≠ (s_.2.2 : Value).ownBlock) (.slice qp qc.length qo) qc) ∧ (Kd.S k25 25 w' w.heap.size (fun k_ => some k_ ≠ (s_.2.1 : Value).ownBlock ∧ some k_ ≠ (s_.2.2 : Value).ownBlock ∧ some k_ ≠ (.slice qm qb.length qn : Value).ownBlock ∧ some k_ ≠ (.slice qp qc.length qo : Value).ownBlock ∧ k_ ≠ qh ∧ k_ ≠ qi) u3 x3_1) ∧ (w'.heap[qh]? = some (.cells #[.bool a0_0, .slice A0_1 l0_1.length c0_1, .slice A0_2 l0_2.length c0_2] 25 (0, 0))) ∧ (w'.heap[qi]? = some (.cells #[.bool qk, .slice qm qb.length qn, .slice qp qc.length qo] 25 (0, 0))) ∧ (Below w.heap.size w w')) ?_ ?_
          rotate_left
          ·intro hJ2_5_6
           refine join_ (σ := Value × Value × Nat) 4 #[true, true, true, true, true, true, false, true, true, false, false, true, false] (fun s_ => [(27, s_.1), (30, s_.2.1), (6, .pointer (some ⟨s_.2.2, 0, none⟩))]) (fun s_ w' => (w'.cell? ⟨qh, 0, none⟩ = some (.bool a0_0) ∧ w'.cell? ⟨qh, 1, none⟩ = some (.slice A0_1 l0_1.length c0_1) ∧ w'.cell? ⟨qh, 2, none⟩ = some (.slice A0_2 l0_2.length c0_2) ∧ w'.cell? ⟨qi, 0, none⟩ = some (.bool qk) ∧ w'.cell? ⟨qi, 1, none⟩ = some (.slice qm qb.length qn) ∧ w'.cell? ⟨qi, 2, none⟩ = some (.slice qp qc.length qo)) ∧ (Kd.R k44 44 w' w.heap.size (fun k_ => some k_ ≠ (.slice qm qb.length qn : Value).ownBlock) s_.2.1 qx) ∧ (Kd.R k44 44 w' w.heap.size (fun k_ => some k_ ≠ (s_.2.1 : Value).ownBlock) (.slice qm qb.length qn) qb) ∧ (Kd.R k46 46 w' w.heap.size (fun _ => True) (.slice qp qc.length qo) qc) ∧ (Kd.S k25 25 w' w.heap.size (fun k_ => some k_ ≠ (s_.2.1 : Value).ownBlock ∧ some k_ ≠ (.slice qm qb.length qn : Value).ownBlock ∧ some k_ ≠ (.slice qp qc.length qo : Value).ownBlock ∧ k_ ≠ qh ∧ k_ ≠ qi ∧ k_ ≠ s_.2.2) u3 x3_1) ∧ (w'.heap[qh]? = some (.cells #[.bool a0_0, .slice A0_1 l0_1.length c0_1, .slice A0_2 l0_2.length c0_2] 25 (0, 0))) ∧ (w'.heap[qi]? = some (.cells #[.bool qk, .slice qm qb.length qn, .slice qp qc.length qo] 25 (0, 0))) ∧ (w'.heap[s_.2.2]? = some (.cells #[.bool false, .slice none 0 0, .slice none 0 0] 25 (0, 0))) ∧ (w.heap.size ≤ s_.2.2) ∧ (w.heap.size ≤ s_.2.2) ∧ (qh ≠ s_.2.2) ∧ (s_.2.2 ≠ qh) ∧ (qi ≠ s_.2.2) ∧ (s_.2.2 ≠ qi) ∧ (Below w.heap.size w w')) ?_ ?_
           rotate_left
           ·intro hJ2_5_11
            refine join_ (σ := Value × Value × Nat) 4 #[true, true, true, true, true, false, true, true, true, false, false, true, false] (fun s_ => [(27, s_.1), (31, s_.2.1), (6, .pointer (some ⟨s_.2.2, 0, none⟩))]) (fun s_ w' => (w'.cell? ⟨qh, 0, none⟩ = some (.bool a0_0) ∧ w'.cell? ⟨qh, 1, none⟩ = some (.slice A0_1 l0_1.length c0_1) ∧ w'.cell? ⟨qh, 2, none⟩ = some (.slice A0_2 l0_2.length c0_2) ∧ w'.cell? ⟨qi, 0, none⟩ = some (.bool qk) ∧ w'.cell? ⟨qi, 1, none⟩ = some (.slice qm qb.length qn) ∧ w'.cell? ⟨qi, 2, none⟩ = some (.slice qp qc.length qo)) ∧ (Kd.R k44 44 w' w.heap.size (fun k_ => some k_ ≠ (.slice qm qb.length qn : Value).ownBlock) s_.1 qbi) ∧ (Kd.R k46 46 w' w.heap.size (fun k_ => some k_ ≠ (.slice qp qc.length qo : Value).ownBlock) s_.2.1 qbd) ∧ (Kd.R k44 44 w' w.heap.size (fun k_ => some k_ ≠ (s_.1 : Value).ownBlock) (.slice qm qb.length qn) qb) ∧ (Kd.R k46 46 w' w.heap.size (fun k_ => some k_ ≠ (s_.2.1 : Value).ownBlock) (.slice qp qc.length qo) qc) ∧ (Kd.S k25 25 w' w.heap.size (fun k_ => some k_ ≠ (s_.1 : Value).ownBlock ∧ some k_ ≠ (s_.2.1 : Value).ownBlock ∧ some k_ ≠ (.slice qm qb.length qn : Value).ownBlock ∧ some k_ ≠ (.slice qp qc.length qo : Value).ownBlock ∧ k_ ≠ qh ∧ k_ ≠ qi ∧ k_ ≠ s_.2.2) u3 x3_1) ∧ (w'.heap[qh]? = some (.cells #[.bool a0_0, .slice A0_1 l0_1.length c0_1, .slice A0_2 l0_2.length c0_2] 25 (0, 0))) ∧ (w'.heap[qi]? = some (.cells #[.bool qk, .slice qm qb.length qn, .slice qp qc.length qo] 25 (0, 0))) ∧ (w'.heap[s_.2.2]? = some (.cells #[.bool false, .slice none 0 0, .slice none 0 0] 25 (0, 0))) ∧ (w.heap.size ≤ s_.2.2) ∧ (w.heap.size ≤ s_.2.2) ∧ (qh ≠ s_.2.2) ∧ (s_.2.2 ≠ qh) ∧ (qi ≠ s_.2.2) ∧ (s_.2.2 ≠ qi) ∧ (Below w.heap.size w w')) ?_ ?_
            rotate_left
            ·intro hJ2_6_11
             refine join_ (σ := Value × Value) 5 #[true, true, true, true, true, true, false, true, true, false, false, false, false] (fun s_ => [(27, s_.1), (30, s_.2)]) (fun s_ w' => (w'.cell? ⟨qh, 0, none⟩ = some (.bool a0_0) ∧ w'.cell? ⟨qh, 1, none⟩ = some (.slice A0_1 l0_1.length c0_1) ∧ w'.cell? ⟨qh, 2, none⟩ = some (.slice A0_2 l0_2.length c0_2) ∧ w'.cell? ⟨qi, 0, none⟩ = some (.bool qk) ∧ w'.cell? ⟨qi, 1, none⟩ = some (.slice qm qb.length qn) ∧ w'.cell? ⟨qi, 2, none⟩ = some (.slice qp qc.length qo)) ∧ (Kd.R k44 44 w' w.heap.size (fun k_ => some k_ ≠ (.slice qm qb.length qn : Value).ownBlock) s_.2 qx) ∧ (Kd.R k44 44 w' w.heap.size (fun k_ => some k_ ≠ (s_.2 : Value).ownBlock) (.slice qm qb.length qn) qb) ∧ (Kd.R k46 46 w' w.heap.size (fun _ => True) (.slice qp qc.length qo) qc) ∧ (Kd.S k25 25 w' w.heap.size (fun k_ => some k_ ≠ (s_.2 : Value).ownBlock ∧ some k_ ≠ (.slice qm qb.length qn : Value).ownBlock ∧ some k_ ≠ (.slice qp qc.length qo : Value).ownBlock ∧ k_ ≠ qh ∧ k_ ≠ qi) u3 x3_1) ∧ (w'.heap[qh]? = some (.cells #[.bool a0_0, .slice A0_1 l0_1.length c0_1, .slice A0_2 l0_2.length c0_2] 25 (0, 0))) ∧ (w'.heap[qi]? = some (.cells #[.bool qk, .slice qm qb.length qn, .slice qp qc.length qo] 25 (0, 0))) ∧ (Below w.heap.size w w')) ?_ ?_
             rotate_left
             ·intro hJ2_5
              refine join_ (σ := Value × Value) 5 #[true, true, true, true, true, false, true, true, true, false, false, false, false] (fun s_ => [(27, s_.1), (31, s_.2)]) (fun s_ w' => (w'.cell? ⟨qh, 0, none⟩ = some (.bool a0_0) ∧ w'.cell? ⟨qh, 1, none⟩ = some (.slice A0_1 l0_1.length c0_1) ∧ w'.cell? ⟨qh, 2, none⟩ = some (.slice A0_2 l0_2.length c0_2) ∧ w'.cell? ⟨qi, 0, none⟩ = some (.bool qk) ∧ w'.cell? ⟨qi, 1, none⟩ = some (.slice qm qb.length qn) ∧ w'.cell? ⟨qi, 2, none⟩ = some (.slice qp qc.length qo)) ∧ (Kd.R k44 44 w' w.heap.size (fun k_ => some k_ ≠ (.slice qm qb.length qn : Value).ownBlock) s_.1 qbi) ∧ (Kd.R k46 46 w' w.heap.size (fun k_ => some k_ ≠ (.slice qp qc.length qo : Value).ownBlock) s_.2 qbd) ∧ (Kd.R k44 44 w' w.heap.size (fun k_ => some k_ ≠ (s_.1 : Value).ownBlock) (.slice qm qb.length qn) qb) ∧ (Kd.R k46 46 w' w.heap.size (fun k_ => some k_ ≠ (s_.2 : Value).ownBlock) (.slice qp qc.length qo) qc) ∧ (Kd.S k25 25 w' w.heap.size (fun k_ => some k_ ≠ (s_.1 : Value).ownBlock ∧ some k_ ≠ (s_.2 : Value).ownBlock ∧ some k_ ≠ (.slice qm qb.length qn : Value).ownBlock ∧ some k_ ≠ (.slice qp qc.length qo : Value).ownBlock ∧ k_ ≠ qh ∧ k_ ≠ qi) u3 x3_1) ∧ (w'.heap[qh]? = some (.cells #[.bool a0_0, .slice A0_1 l0_1.length c0_1, .slice A0_2 l0_2.length c0_2] 25 (0, 0))) ∧ (w'.heap[qi]? = some (.cells #[.bool qk, .slice qm qb.length qn, .slice qp qc.length qo] 25 (0, 0))) ∧ (Below w.heap.size w w')) ?_ ?_
              rotate_left
              ·intro hJ2_6
               refine join_ (σ := Value × Nat) 5 #[true, true, true, true, true, false, false, true, true, false, false, true, false] (fun s_ => [(27, s_.1), (6, .pointer (some ⟨s_.2, 0, none⟩))]) (fun s_ w' => (w'.cell? ⟨qh, 0, none⟩ = some (.bool a0_0) ∧ w'.cell? ⟨qh, 1, none⟩ = some (.slice A0_1 l0_1.length c0_1) ∧ w'.cell? ⟨qh, 2, none⟩ = some (.slice A0_2 l0_2.length c0_2) ∧ w'.cell? ⟨qi, 0, none⟩ = some (.bool qk) ∧ w'.cell? ⟨qi, 1, none⟩ = some (.slice qm qb.length qn) ∧ w'.cell? ⟨qi, 2, none⟩ = some (.slice qp qc.length qo)) ∧ (Kd.R k44 44 w' w.heap.size (fun k_ => some k_ ≠ (.slice qm qb.length qn : Value).ownBlock) s_.1 qbi) ∧ (Kd.R k44 44 w' w.heap.size (fun k_ => some k_ ≠ (s_.1 : Value).ownBlock) (.slice qm qb.length qn) qb) ∧ (Kd.R k46 46 w' w.heap.size (fun _ => True) (.slice qp qc.length qo) qc) ∧ (Kd.S k25 25 w' w.heap.size (fun k_ => some k_ ≠ (s_.1 : Value).ownBlock ∧ some k_ ≠ (.slice qm qb.length qn : Value).ownBlock ∧ some k_ ≠ (.slice qp qc.length qo : Value).ownBlock ∧ k_ ≠ qh ∧ k_ ≠ qi ∧ k_ ≠ s_.2) u3 x3_1) ∧ (w'.heap[qh]? = some (.cells #[.bool a0_0, .slice A0_1 l0_1.length c0_1, .slice A0_2 l0_2.length c0_2] 25 (0, 0))) ∧ (w'.heap[qi]? = some (.cells #[.bool qk, .slice qm qb.length qn, .slice qp qc.length qo] 25 (0, 0))) ∧ (w'.heap[s_.2]? = some (.cells #[.bool false, .slice none 0 0, .slice none 0 0] 25 (0, 0))) ∧ (w.heap.size ≤ s_.2) ∧ (w.heap.size ≤ s_.2) ∧ (qh ≠ s_.2) ∧ (s_.2 ≠ qh) ∧ (qi ≠ s_.2) ∧ (s_.2 ≠ qi) ∧ (Below w.heap.size w w')) ?_ ?_
               rotate_left
               ·intro hJ2_11
                refine join_ (σ := Value × Nat) 5 #[true, true, false, true, true, false, true, true, true, false, false, true, false] (fun s_ => [(31, s_.1), (6, .pointer (some ⟨s_.2, 0, none⟩))]) (fun s_ w' => (w'.cell? ⟨qh, 0, none⟩ = some (.bool a0_0) ∧ w'.cell? ⟨qh, 1, none⟩ = some (.slice A0_1 l0_1.length c0_1) ∧ w'.cell? ⟨qh, 2, none⟩ = some (.slice A0_2 l0_2.length c0_2) ∧ w'.cell? ⟨qi, 0, none⟩ = some (.bool qk) ∧ w'.cell? ⟨qi, 1, none⟩ = some (.slice qm qb.length qn) ∧ w'.cell? ⟨qi, 2, none⟩ = some (.slice qp qc.length qo)) ∧ (Kd.R k46 46 w' w.heap.size (fun k_ => some k_ ≠ (.slice qp qc.length qo : Value).ownBlock) s_.1 qbd) ∧ (Kd.R k44 44 w' w.heap.size (fun _ => True) (.slice qm qb.length qn) qb) ∧ (Kd.R k46 46 w' w.heap.size (fun k_ => some k_ ≠ (s_.1 : Value).ownBlock) (.slice qp qc.length qo) qc) ∧ (Kd.S k25 25 w' w.heap.size (fun k_ => some k_ ≠ (s_.1 : Value).ownBlock ∧ some k_ ≠ (.slice qm qb.length qn : Value).ownBlock ∧ some k_ ≠ (.slice qp qc.length qo : Value).ownBlock ∧ k_ ≠ qh ∧ k_ ≠ qi ∧ k_ ≠ s_.2) u3 x3_1) ∧ (w'.heap[qh]? = some (.cells #[.bool a0_0, .slice A0_1 l0_1.length c0_1, .slice A0_2 l0_2.length c0_2] 25 (0, 0))) ∧ (w'.heap[qi]? = some (.cells #[.bool qk, .slice qm qb.length qn, .slice qp qc.length qo] 25 (0, 0))) ∧ (w'.heap[s_.2]? = some (.cells #[.bool false, .slice none 0 0, .slice none 0 0] 25 (0, 0))) ∧ (w.heap.size ≤ s_.2) ∧ (w.heap.size ≤ s_.2) ∧ (qh ≠ s_.2) ∧ (s_.2 ≠ qh) ∧ (qi ≠ s_.2) ∧ (s_.2 ≠ qi) ∧ (Below w.heap.size w w')) ?_ ?_
                rotate_left
                ·intro hJ6_11
                 refine join_ (σ := Value) 6 #[true, true, true, true, true, false, false, true, true, false, false, false, false] (fun s_ => [(27, s_)]) (fun s_ w' => (w'.cell? ⟨qh, 0, none⟩ = some (.bool a0_0) ∧ w'.cell? ⟨qh, 1, none⟩ = some (.slice A0_1 l0_1.length c0_1) ∧ w'.cell? ⟨qh, 2, none⟩ = some (.slice A0_2 l0_2.length c0_2) ∧ w'.cell? ⟨qi, 0, none⟩ = some (.bool qk) ∧ w'.cell? ⟨qi, 1, none⟩ = some (.slice qm qb.length qn) ∧ w'.cell? ⟨qi, 2, none⟩ = some (.slice qp qc.length qo)) ∧ (Kd.R k44 44 w' w.heap.size (fun k_ => some k_ ≠ (.slice qm qb.length qn : Value).ownBlock) s_ qbi) ∧ (Kd.R k44 44 w' w.heap.size (fun k_ => some k_ ≠ (s_ : Value).ownBlock) (.slice qm qb.length qn) qb) ∧ (Kd.R k46 46 w' w.heap.size (fun _ => True) (.slice qp qc.length qo) qc) ∧ (Kd.S k25 25 w' w.heap.size (fun k_ => some k_ ≠ (s_ : Value).ownBlock ∧ some k_ ≠ (.slice qm qb.length qn : Value).ownBlock ∧ some k_ ≠ (.slice qp qc.length qo : Value).ownBlock ∧ k_ ≠ qh ∧ k_ ≠ qi) u3 x3_1) ∧ (w'.heap[qh]? = some (.cells #[.bool a0_0, .slice A0_1 l0_1.length c0_1, .slice A0_2 l0_2.length c0_2] 25 (0, 0))) ∧ (w'.heap[qi]? = some (.cells #[.bool qk, .slice qm qb.length qn, .slice qp qc.length qo] 25 (0, 0))) ∧ (Below w.heap.size w w')) ?_ ?_
                 rotate_left
                 ·intro hJ2
                  refine join_ (σ := Value) 6 #[true, true, false, true, true, false, true, true, true, false, false, false, false] (fun s_ => [(31, s_)]) (fun s_ w' => (w'.cell? ⟨qh, 0, none⟩ = some (.bool a0_0) ∧ w'.cell? ⟨qh, 1, none⟩ = some (.slice A0_1 l0_1.length c0_1) ∧ w'.cell? ⟨qh, 2, none⟩ = some (.slice A0_2 l0_2.length c0_2) ∧ w'.cell? ⟨qi, 0, none⟩ = some (.bool qk) ∧ w'.cell? ⟨qi, 1, none⟩ = some (.slice qm qb.length qn) ∧ w'.cell? ⟨qi, 2, none⟩ = some (.slice qp qc.length qo)) ∧ (Kd.R k46 46 w' w.heap.size (fun k_ => some k_ ≠ (.slice qp qc.length qo : Value).ownBlock) s_ qbd) ∧ (Kd.R k44 44 w' w.heap.size (fun _ => True) (.slice qm qb.length qn) qb) ∧ (Kd.R k46 46 w' w.heap.size (fun k_ => some k_ ≠ (s_ : Value).ownBlock) (.slice qp qc.length qo) qc) ∧ (Kd.S k25 25 w' w.heap.size (fun k_ => some k_ ≠ (s_ : Value).ownBlock ∧ some k_ ≠ (.slice qm qb.length qn : Value).ownBlock ∧ some k_ ≠ (.slice qp qc.length qo : Value).ownBlock ∧ k_ ≠ qh ∧ k_ ≠ qi) u3 x3_1) ∧ (w'.heap[qh]? = some (.cells #[.bool a0_0, .slice A0_1 l0_1.length c0_1, .slice A0_2 l0_2.length c0_2] 25 (0, 0))) ∧ (w'.heap[qi]? = some (.cells #[.bool qk, .slice qm qb.length qn, .slice qp qc.length qo] 25 (0, 0))) ∧ (Below w.heap.size w w')) ?_ ?_
                  rotate_left
                  ·intro hJ6
                   refine join_ (σ := Nat) 6 #[true, true, false, true, true, false, false, true, true, false, false, true, false] (fun s_ => [(6, .pointer (some ⟨s_, 0, none⟩))]) (fun s_ w' => (w'.cell? ⟨qh, 0, none⟩ = some (.bool a0_0) ∧ w'.cell? ⟨qh, 1, none⟩ = some (.slice A0_1 l0_1.length c0_1) ∧ w'.cell? ⟨qh, 2, none⟩ = some (.slice A0_2 l0_2.length c0_2) ∧ w'.cell? ⟨qi, 0, none⟩ = some (.bool qk) ∧ w'.cell? ⟨qi, 1, none⟩ = some (.slice qm qb.length qn) ∧ w'.cell? ⟨qi, 2, none⟩ = some (.slice qp qc.length qo)) ∧ (Kd.R k44 44 w' w.heap.size (fun _ => True) (.slice qm qb.length qn) qb) ∧ (Kd.R k46 46 w' w.heap.size (fun _ => True) (.slice qp qc.length qo) qc) ∧ (Kd.S k25 25 w' w.heap.size (fun k_ => some k_ ≠ (.slice qm qb.length qn : Value).ownBlock ∧ some k_ ≠ (.slice qp qc.length qo : Value).ownBlock ∧ k_ ≠ qh ∧ k_ ≠ qi ∧ k_ ≠ s_) u3 x3_1) ∧ (w'.heap[qh]? = some (.cells #[.bool a0_0, .slice A0_1 l0_1.length c0_1, .slice A0_2 l0_2.length c0_2] 25 (0, 0))) ∧ (w'.heap[qi]? = some (.cells #[.bool qk, .slice qm qb.length qn, .slice qp qc.length qo] 25 (0, 0))) ∧ (w'.heap[s_]? = some (.cells #[.bool false, .slice none 0 0, .slice none 0 0] 25 (0, 0))) ∧ (w.heap.size ≤ s_) ∧ (w.heap.size ≤ s_) ∧ (qh ≠ s_) ∧ (s_ ≠ qh) ∧ (qi ≠ s_) ∧ (s_ ≠ qi) ∧ (Below w.heap.size w w')) ?_ ?_
                   rotate_left
                   ·intro hJ11
                    refine three_ (i := 2) (j := 6) (k := 11) (Ni := some 27) (Nj := some 31) (Nk := some 6) #[true, true, true, true, true, false, false, true, true, false, false, false, false] #[true, true, false, true, true, false, true, true, true, false, false, false, false] #[true, true, false, true, true, false, false, true, true, false, false, true, false] rfl rfl rfl rfl rfl rfl (three_of HT_.out (by kernel_rfl)) (by decide) (by decide) (by decide) (fun K hK => ?_) (fun K hK => ?_) (fun K hK => ?_)
                    ·skip
                     refine Kd.R_lit_step k44 _ 44 ?hg (N := 27) ?hd (xs := ([] : List (S44))) (inner := []) (ok := fun _ => True) (okp := fun _ => True) ?hr ?hp (fun _ hk => hk) trivial (Below.refl _ _) (Nat.le_refl _) (by simp) ?_; (case hd => rfl); (case hg => rfl); (case hr => ((go_simp; done))); (case hp => exact (Reps.none _ _))
                     intro qaf w20 ho21 hb hg_ hnew_
                     clear hg_ hnew_
                     ((rw [← qch.out] at ho21))
                     have n0_ := Aside0.mk (Kd.S_elder' (by exact HO_3.out) (Kd.R_base ho21) hb)
                     have n1_ := Aside0.mk (Kd.R_elder' (by exact qe.out) (Kd.R_base ho21) hb)
                     have n2_ := Aside0.mk (Kd.R_below (by exact qf.out) hb)
                     have n3_ := Aside0.mk (Kd.R_lower (Kd.R_new' ho21 (Kd.R_lt (by exact qe.out))) (below_size (by repeat (((with_reducible (exact HB.out)))))))
                     have n4_ := Aside0.mk (blk_below (g := qh) (o := .cells #[.bool a0_0, .slice A0_1 l0_1.length c0_1, .slice A0_2 l0_2.length c0_2] 25 (0, 0)) (by exact qd.out) hb)
                     have n5_ := Aside0.mk (blk_below (g := qi) (o := .cells #[.bool qk, .slice qm qb.length qn, .slice qp qc.length qo] 25 (0, 0)) (by exact qg.out) hb)
                     have n6_ := Aside0.mk (below_step (by repeat (((with_reducible (exact HB.out))))) hb)
                     clear HO_3 qe qf qd qg HB
                     have HO_3 := n0_
                     have qe := n1_
                     have qf := n2_
                     have qab := n3_
                     have qd := n4_
                     have qg := n5_
                     have HB := n6_
                     clear n0_ n1_ n2_ n3_ n4_ n5_ n6_ hb ho21
                     refine hK.out _ _ ⟨(blk_cell qd.out 0).trans rfl, (blk_cell qd.out 1).trans rfl, (blk_cell qd.out 2).trans rfl, (blk_cell qg.out 0).trans rfl, (blk_cell qg.out 1).trans rfl, (blk_cell qg.out 2).trans rfl⟩ (fun hHeld => ?_)
                     clear hK K
                     refine norm_ (a' := ?_) ?_ ?_
                     rotate_left
                     ·show Act.put _ (some 27) _ = _
                      simp only [Act.put, List.setIfInBounds_toArray, List.set_cons_zero, List.set_cons_succ, i64_w, i32_w]
                      rfl
                     exact norm_ (by ((simp only [putAll, Act.put, List.setIfInBounds_toArray, List.set_cons_zero, List.set_cons_succ]; done))) (hJ2 (qaf) _ ⟨hHeld, (by exact Kd.R_mono qab.out (fun _ hk => hk.2)), (by exact Kd.R_mono qe.out (fun _ hk => hk.2)), (by exact qf.out), (by exact Kd.S_mono HO_3.out (fun _ hk => ⟨hk.2, ⟨hk.1.1, ⟨hk.1.2.1, ⟨hk.1.2.2.1, hk.1.2.2.2⟩⟩⟩⟩)), (by exact qd.out), (by exact qg.out), (by repeat (((with_reducible (exact HB.out)))))⟩)
                    ·skip
                     refine Kd.R_lit_step k46 _ 46 ?hg (N := 31) ?hd (xs := ([] : List (S46))) (inner := []) (ok := fun _ => True) (okp := fun _ => True) ?hr ?hp (fun _ hk => hk) trivial (Below.refl _ _) (Nat.le_refl _) (by simp) ?_; (case hd => rfl); (case hg => rfl); (case hr => ((go_simp; done))); (case hp => exact (Reps.none _ _))
                     intro qae w20 ho21 hb hg_ hnew_
                     clear hg_ hnew_
                     ((rw [← qca.out] at ho21))
                     have n0_ := Aside0.mk (Kd.S_elder' (by exact HO_3.out) (Kd.R_base ho21) hb)
                     have n1_ := Aside0.mk (Kd.R_below (by exact qe.out) hb)
                     have n2_ := Aside0.mk (Kd.R_elder' (by exact qf.out) (Kd.R_base ho21) hb)
                     have n3_ := Aside0.mk (Kd.R_lower (Kd.R_new' ho21 (Kd.R_lt (by exact qf.out))) (below_size (by repeat (((with_reducible (exact HB.out)))))))
                     have n4_ := Aside0.mk (blk_below (g := qh) (o := .cells #[.bool a0_0, .slice A0_1 l0_1.length c0_1, .slice A0_2 l0_2.length c0_2] 25 (0, 0)) (by exact qd.out) hb)
                     have n5_ := Aside0.mk (blk_below (g := qi) (o := .cells #[.bool qk, .slice qm qb.length qn, .slice qp qc.length qo] 25 (0, 0)) (by exact qg.out) hb)
                     have n6_ := Aside0.mk (below_step (by repeat (((with_reducible (exact HB.out))))) hb)
                     clear HO_3 qe qf qd qg HB
                     have HO_3 := n0_
                     have qe := n1_
                     have qf := n2_
                     have qy := n3_
                     have qd := n4_
                     have qg := n5_
                     have HB := n6_
                     clear n0_ n1_ n2_ n3_ n4_ n5_ n6_ hb ho21
                     refine hK.out _ _ ⟨(blk_cell qd.out 0).trans rfl, (blk_cell qd.out 1).trans rfl, (blk_cell qd.out 2).trans rfl, (blk_cell qg.out 0).trans rfl, (blk_cell qg.out 1).trans rfl, (blk_cell qg.out 2).trans rfl⟩ (fun hHeld => ?_)
                     clear hK K
                     refine norm_ (a' := ?_) ?_ ?_
                     rotate_left
                     ·show Act.put _ (some 31) _ = _
                      simp only [Act.put, List.setIfInBounds_toArray, List.set_cons_zero, List.set_cons_succ, i64_w, i32_w]
                      rfl
                     exact norm_ (by ((simp only [putAll, Act.put, List.setIfInBounds_toArray, List.set_cons_zero, List.set_cons_succ]; done))) (hJ6 (qae) _ ⟨hHeld, (by exact Kd.R_mono qy.out (fun _ hk => hk.2)), (by exact qe.out), (by exact Kd.R_mono qf.out (fun _ hk => hk.2)), (by exact Kd.S_mono HO_3.out (fun _ hk => ⟨hk.2, ⟨hk.1.1, ⟨hk.1.2.1, ⟨hk.1.2.2.1, hk.1.2.2.2⟩⟩⟩⟩)), (by exact qd.out), (by exact qg.out), (by repeat (((with_reducible (exact HB.out)))))⟩)
                    ·skip
                     refine box_step ?hg (N := 6) ?hd (cs := #[.bool false, .slice none 0 0, .slice none 0 0]) (t := 25) ?hr ?_; (case hd => rfl); (case hg => rfl); (case hr => ((go_simp; done)))
                     intro qj hg w20 hbox hb
                     have n0_ := Aside0.mk (Kd.S_below (Kd.S_elderB (by exact HO_3.out) qj (Nat.le_of_eq hg.symm)) hb)
                     have n1_ := Aside0.mk (Kd.R_below (by exact qe.out) hb)
                     have n2_ := Aside0.mk (Kd.R_below (by exact qf.out) hb)
                     have n3_ := Aside0.mk (blk_below (g := qh) (o := .cells #[.bool a0_0, .slice A0_1 l0_1.length c0_1, .slice A0_2 l0_2.length c0_2] 25 (0, 0)) (by exact qd.out) hb)
                     have n4_ := Aside0.mk (blk_below (g := qi) (o := .cells #[.bool qk, .slice qm qb.length qn, .slice qp qc.length qo] 25 (0, 0)) (by exact qg.out) hb)
                     have n5_ := Aside0.mk (below_step (by repeat (((with_reducible (exact HB.out))))) hb)
                     have n6_ := Aside0.mk (hbox)
                     have n7_ := Aside0.mk ((by rw [hg]; exact (below_size (by repeat (((with_reducible (exact HB.out)))))) : w.heap.size ≤ qj))
                     have n8_ := Aside0.mk ((by rw [hg]; exact (below_size (by repeat (((with_reducible (exact HB.out)))))) : w.heap.size ≤ qj))
                     have n9_ := Aside0.mk ((by rw [hg]; exact Nat.ne_of_lt (blk_lt (g := qh) (o := .cells #[.bool a0_0, .slice A0_1 l0_1.length c0_1, .slice A0_2 l0_2.length c0_2] 25 (0, 0)) (by exact qd.out)) : qh ≠ qj))
                     have n10_ := Aside0.mk ((by rw [hg]; exact Nat.ne_of_gt (blk_lt (g := qh) (o := .cells #[.bool a0_0, .slice A0_1 l0_1.length c0_1, .slice A0_2 l0_2.length c0_2] 25 (0, 0)) (by exact qd.out)) : qj ≠ qh))
                     have n11_ := Aside0.mk ((by rw [hg]; exact Nat.ne_of_lt (blk_lt (g := qi) (o := .cells #[.bool qk, .slice qm qb.length qn, .slice qp qc.length qo] 25 (0, 0)) (by exact qg.out)) : qi ≠ qj))
                     have n12_ := Aside0.mk ((by rw [hg]; exact Nat.ne_of_gt (blk_lt (g := qi) (o := .cells #[.bool qk, .slice qm qb.length qn, .slice qp qc.length qo] 25 (0, 0)) (by exact qg.out)) : qj ≠ qi))
                     clear HO_3 qe qf qd qg HB
                     have HO_3 := n0_
                     have qe := n1_
                     have qf := n2_
                     have qd := n3_
                     have qg := n4_
                     have HB := n5_
                     have ql := n6_
                     have GW217 := n7_
                     have qai := n8_
                     have qs := n9_
                     have qv := n10_
                     have qt := n11_
                     have qw := n12_
                     clear n0_ n1_ n2_ n3_ n4_ n5_ n6_ n7_ n8_ n9_ n10_ n11_ n12_ hb hbox hg
                     refine hK.out _ _ ⟨(blk_cell qd.out 0).trans rfl, (blk_cell qd.out 1).trans rfl, (blk_cell qd.out 2).trans rfl, (blk_cell qg.out 0).trans rfl, (blk_cell qg.out 1).trans rfl, (blk_cell qg.out 2).trans rfl⟩ (fun hHeld => ?_)
                     clear hK K
                     refine norm_ (a' := ?_) ?_ ?_
                     rotate_left
                     ·show Act.put _ (some 6) _ = _
                      simp only [Act.put, List.setIfInBounds_toArray, List.set_cons_zero, List.set_cons_succ, i64_w, i32_w]
                      rfl
                     exact norm_ (by ((simp only [putAll, Act.put, List.setIfInBounds_toArray, List.set_cons_zero, List.set_cons_succ]; done))) (hJ11 (qj) _ ⟨hHeld, (by exact qe.out), (by exact qf.out), (by exact Kd.S_mono HO_3.out (fun _ hk => ⟨hk.1.1, ⟨hk.1.2.1, ⟨hk.1.2.2.1, ⟨hk.1.2.2.2, hk.2⟩⟩⟩⟩)), (by exact qd.out), (by exact qg.out), (by exact ql.out), GW217.out, qai.out, qs.out, qv.out, qt.out, qw.out, (by repeat (((with_reducible (exact HB.out)))))⟩)
                   ·skip
                    rintro qj w21 ⟨hS_, h0_, h1_, h2_, h3_, h4_, h5_, h6_, h7_, h8_, h9_, h10_, h11_, h12_⟩
                    have n0_ : Aside0 (Kd.R k44 44 w21 w.heap.size (fun _ => True) (.slice qm qb.length qn) qb) := ⟨h0_⟩
                    have n1_ : Aside0 (Kd.R k46 46 w21 w.heap.size (fun _ => True) (.slice qp qc.length qo) qc) := ⟨h1_⟩
                    have n2_ : Aside0 (Kd.S k25 25 w21 w.heap.size (fun k_ => some k_ ≠ (.slice qm qb.length qn : Value).ownBlock ∧ some k_ ≠ (.slice qp qc.length qo : Value).ownBlock ∧ k_ ≠ qh ∧ k_ ≠ qi ∧ k_ ≠ qj) u3 x3_1) := ⟨h2_⟩
                    have n3_ : Aside0 (w21.heap[qh]? = some (.cells #[.bool a0_0, .slice A0_1 l0_1.length c0_1, .slice A0_2 l0_2.length c0_2] 25 (0, 0))) := ⟨h3_⟩
                    have n4_ : Aside0 (w21.heap[qi]? = some (.cells #[.bool qk, .slice qm qb.length qn, .slice qp qc.length qo] 25 (0, 0))) := ⟨h4_⟩
                    have n5_ : Aside0 (w21.heap[qj]? = some (.cells #[.bool false, .slice none 0 0, .slice none 0 0] 25 (0, 0))) := ⟨h5_⟩
                    have n6_ : Aside0 (w.heap.size ≤ qj) := ⟨h6_⟩
                    have n7_ : Aside0 (w.heap.size ≤ qj) := ⟨h7_⟩
                    have n8_ : Aside0 (qh ≠ qj) := ⟨h8_⟩
                    have n9_ : Aside0 (qj ≠ qh) := ⟨h9_⟩
                    have n10_ : Aside0 (qi ≠ qj) := ⟨h10_⟩
                    have n11_ : Aside0 (qj ≠ qi) := ⟨h11_⟩
                    have n12_ : Aside0 (Below w.heap.size w w21) := ⟨h12_⟩
                    clear HO_3 qe qf qd qg HB h0_ h1_ h2_ h3_ h4_ h5_ h6_ h7_ h8_ h9_ h10_ h11_ h12_
                    have qe := n0_
                    have qf := n1_
                    have HO_3 := n2_
                    have qd := n3_
                    have qg := n4_
                    have ql := n5_
                    have GW217 := n6_
                    have qai := n7_
                    have qs := n8_
                    have qv := n9_
                    have qt := n10_
                    have qw := n11_
                    have HB := n12_
                    clear n0_ n1_ n2_ n3_ n4_ n5_ n6_ n7_ n8_ n9_ n10_ n11_ n12_
                    have hHeld : w21.cell? ⟨qh, 0, none⟩ = some (.bool a0_0) ∧ w21.cell? ⟨qh, 1, none⟩ = some (.slice A0_1 l0_1.length c0_1) ∧ w21.cell? ⟨qh, 2, none⟩ = some (.slice A0_2 l0_2.length c0_2) ∧ w21.cell? ⟨qi, 0, none⟩ = some (.bool qk) ∧ w21.cell? ⟨qi, 1, none⟩ = some (.slice qm qb.length qn) ∧ w21.cell? ⟨qi, 2, none⟩ = some (.slice qp qc.length qo) := hS_
                    refine norm_ (a' := ?_) ?_ ?_
                    rotate_left
                    ·simp only [putAll, Act.put, List.setIfInBounds_toArray, List.set_cons_zero, List.set_cons_succ]
                     rfl
                    refine two_ (i := 2) (j := 6) (Ni := some 27) (Nj := some 31) #[true, true, true, true, true, false, false, true, true, false, false, true, false] #[true, true, false, true, true, false, true, true, true, false, false, true, false] rfl rfl rfl rfl (two_of HT_.out (by kernel_rfl)) (by decide) (by decide) (fun K hK => ?_) (fun K hK => ?_)
                    ·skip
                     refine Kd.R_lit_step k44 _ 44 ?hg (N := 27) ?hd (xs := ([] : List (S44))) (inner := []) (ok := fun _ => True) (okp := fun _ => True) ?hr ?hp (fun _ hk => hk) trivial (Below.refl _ _) (Nat.le_refl _) (by simp) ?_; (case hd => rfl); (case hg => rfl); (case hr => ((go_simp; done))); (case hp => exact (Reps.none _ _))
                     intro qaf w22 ho23 hb hg_ hnew_
                     clear hg_ hnew_
                     ((rw [← qch.out] at ho23))
                     have n0_ := Aside0.mk (Kd.S_elder' (by exact HO_3.out) (Kd.R_base ho23) hb)
                     have n1_ := Aside0.mk (Kd.R_elder' (by exact qe.out) (Kd.R_base ho23) hb)
                     have n2_ := Aside0.mk (Kd.R_below (by exact qf.out) hb)
                     have n3_ := Aside0.mk (Kd.R_lower (Kd.R_new' ho23 (Kd.R_lt (by exact qe.out))) (below_size (by repeat (((with_reducible (exact HB.out)))))))
                     have n4_ := Aside0.mk (blk_below (g := qh) (o := .cells #[.bool a0_0, .slice A0_1 l0_1.length c0_1, .slice A0_2 l0_2.length c0_2] 25 (0, 0)) (by exact qd.out) hb)
                     have n5_ := Aside0.mk (blk_below (g := qi) (o := .cells #[.bool qk, .slice qm qb.length qn, .slice qp qc.length qo] 25 (0, 0)) (by exact qg.out) hb)
                     have n6_ := Aside0.mk (blk_below (g := qj) (o := .cells #[.bool false, .slice none 0 0, .slice none 0 0] 25 (0, 0)) (by exact ql.out) hb)
                     have n7_ := Aside0.mk (below_step (by repeat (((with_reducible (exact HB.out))))) hb)
                     clear HO_3 qe qf qd qg ql HB
                     have HO_3 := n0_
                     have qe := n1_
                     have qf := n2_
                     have qab := n3_
                     have qd := n4_
                     have qg := n5_
                     have ql := n6_
                     have HB := n7_
                     clear n0_ n1_ n2_ n3_ n4_ n5_ n6_ n7_ hb ho23
                     refine hK.out _ _ ⟨(blk_cell qd.out 0).trans rfl, (blk_cell qd.out 1).trans rfl, (blk_cell qd.out 2).trans rfl, (blk_cell qg.out 0).trans rfl, (blk_cell qg.out 1).trans rfl, (blk_cell qg.out 2).trans rfl⟩ (fun hHeld => ?_)
                     clear hK K
                     refine norm_ (a' := ?_) ?_ ?_
                     rotate_left
                     ·show Act.put _ (some 27) _ = _
                      simp only [Act.put, List.setIfInBounds_toArray, List.set_cons_zero, List.set_cons_succ, i64_w, i32_w]
                      rfl
                     exact norm_ (by ((simp only [putAll, Act.put, List.setIfInBounds_toArray, List.set_cons_zero, List.set_cons_succ]; done))) (hJ2_11 (qaf, qj) _ ⟨hHeld, (by exact Kd.R_mono qab.out (fun _ hk => hk.2)), (by exact Kd.R_mono qe.out (fun _ hk => hk.2)), (by exact qf.out), (by exact Kd.S_mono HO_3.out (fun _ hk => ⟨hk.2, ⟨hk.1.1, ⟨hk.1.2.1, ⟨hk.1.2.2.1, ⟨hk.1.2.2.2.1, hk.1.2.2.2.2⟩⟩⟩⟩⟩)), (by exact qd.out), (by exact qg.out), (by exact ql.out), GW217.out, qai.out, qs.out, qv.out, qt.out, qw.out, (by repeat (((with_reducible (exact HB.out)))))⟩)
                    ·skip
                     refine Kd.R_lit_step k46 _ 46 ?hg (N := 31) ?hd (xs := ([] : List (S46))) (inner := []) (ok := fun _ => True) (okp := fun _ => True) ?hr ?hp (fun _ hk => hk) trivial (Below.refl _ _) (Nat.le_refl _) (by simp) ?_; (case hd => rfl); (case hg => rfl); (case hr => ((go_simp; done))); (case hp => exact (Reps.none _ _))
                     intro qae w22 ho23 hb hg_ hnew_
                     clear hg_ hnew_
                     ((rw [← qca.out] at ho23))
                     have n0_ := Aside0.mk (Kd.S_elder' (by exact HO_3.out) (Kd.R_base ho23) hb)
                     have n1_ := Aside0.mk (Kd.R_below (by exact qe.out) hb)
                     have n2_ := Aside0.mk (Kd.R_elder' (by exact qf.out) (Kd.R_base ho23) hb)
                     have n3_ := Aside0.mk (Kd.R_lower (Kd.R_new' ho23 (Kd.R_lt (by exact qf.out))) (below_size (by repeat (((with_reducible (exact HB.out)))))))
                     have n4_ := Aside0.mk (blk_below (g := qh) (o := .cells #[.bool a0_0, .slice A0_1 l0_1.length c0_1, .slice A0_2 l0_2.length c0_2] 25 (0, 0)) (by exact qd.out) hb)
                     have n5_ := Aside0.mk (blk_below (g := qi) (o := .cells #[.bool qk, .slice qm qb.length qn, .slice qp qc.length qo] 25 (0, 0)) (by exact qg.out) hb)
                     have n6_ := Aside0.mk (blk_below (g := qj) (o := .cells #[.bool false, .slice none 0 0, .slice none 0 0] 25 (0, 0)) (by exact ql.out) hb)
                     have n7_ := Aside0.mk (below_step (by repeat (((with_reducible (exact HB.out))))) hb)
                     clear HO_3 qe qf qd qg ql HB
                     have HO_3 := n0_
                     have qe := n1_
                     have qf := n2_
                     have qy := n3_
                     have qd := n4_
                     have qg := n5_
                     have ql := n6_
                     have HB := n7_
                     clear n0_ n1_ n2_ n3_ n4_ n5_ n6_ n7_ hb ho23
                     refine hK.out _ _ ⟨(blk_cell qd.out 0).trans rfl, (blk_cell qd.out 1).trans rfl, (blk_cell qd.out 2).trans rfl, (blk_cell qg.out 0).trans rfl, (blk_cell qg.out 1).trans rfl, (blk_cell qg.out 2).trans rfl⟩ (fun hHeld => ?_)
                     clear hK K
                     refine norm_ (a' := ?_) ?_ ?_
                     rotate_left
                     ·show Act.put _ (some 31) _ = _
                      simp only [Act.put, List.setIfInBounds_toArray, List.set_cons_zero, List.set_cons_succ, i64_w, i32_w]
                      rfl
                     exact norm_ (by ((simp only [putAll, Act.put, List.setIfInBounds_toArray, List.set_cons_zero, List.set_cons_succ]; done))) (hJ6_11 (qae, qj) _ ⟨hHeld, (by exact Kd.R_mono qy.out (fun _ hk => hk.2)), (by exact qe.out), (by exact Kd.R_mono qf.out (fun _ hk => hk.2)), (by exact Kd.S_mono HO_3.out (fun _ hk => ⟨hk.2, ⟨hk.1.1, ⟨hk.1.2.1, ⟨hk.1.2.2.1, ⟨hk.1.2.2.2.1, hk.1.2.2.2.2⟩⟩⟩⟩⟩)), (by exact qd.out), (by exact qg.out), (by exact ql.out), GW217.out, qai.out, qs.out, qv.out, qt.out, qw.out, (by repeat (((with_reducible (exact HB.out)))))⟩)
                  ·skip
                   rintro qae w22 ⟨hS_, h0_, h1_, h2_, h3_, h4_, h5_, h6_⟩
                   have n0_ : Aside0 (Kd.R k46 46 w22 w.heap.size (fun k_ => some k_ ≠ (.slice qp qc.length qo : Value).ownBlock) qae qbd) := ⟨h0_⟩
                   have n1_ : Aside0 (Kd.R k44 44 w22 w.heap.size (fun _ => True) (.slice qm qb.length qn) qb) := ⟨h1_⟩
                   have n2_ : Aside0 (Kd.R k46 46 w22 w.heap.size (fun k_ => some k_ ≠ (qae : Value).ownBlock) (.slice qp qc.length qo) qc) := ⟨h2_⟩
                   have n3_ : Aside0 (Kd.S k25 25 w22 w.heap.size (fun k_ => some k_ ≠ (qae : Value).ownBlock ∧ some k_ ≠ (.slice qm qb.length qn : Value).ownBlock ∧ some k_ ≠ (.slice qp qc.length qo : Value).ownBlock ∧ k_ ≠ qh ∧ k_ ≠ qi) u3 x3_1) := ⟨h3_⟩
                   have n4_ : Aside0 (w22.heap[qh]? = some (.cells #[.bool a0_0, .slice A0_1 l0_1.length c0_1, .slice A0_2 l0_2.length c0_2] 25 (0, 0))) := ⟨h4_⟩
                   have n5_ : Aside0 (w22.heap[qi]? = some (.cells #[.bool qk, .slice qm qb.length qn, .slice qp qc.length qo] 25 (0, 0))) := ⟨h5_⟩
                   have n6_ : Aside0 (Below w.heap.size w w22) := ⟨h6_⟩
                   clear HO_3 qe qf qd qg HB h0_ h1_ h2_ h3_ h4_ h5_ h6_
                   have qy := n0_
                   have qe := n1_
                   have qf := n2_
                   have HO_3 := n3_
                   have qd := n4_
                   have qg := n5_
                   have HB := n6_
                   clear n0_ n1_ n2_ n3_ n4_ n5_ n6_
                   have hHeld : w22.cell? ⟨qh, 0, none⟩ = some (.bool a0_0) ∧ w22.cell? ⟨qh, 1, none⟩ = some (.slice A0_1 l0_1.length c0_1) ∧ w22.cell? ⟨qh, 2, none⟩ = some (.slice A0_2 l0_2.length c0_2) ∧ w22.cell? ⟨qi, 0, none⟩ = some (.bool qk) ∧ w22.cell? ⟨qi, 1, none⟩ = some (.slice qm qb.length qn) ∧ w22.cell? ⟨qi, 2, none⟩ = some (.slice qp qc.length qo) := hS_
                   refine norm_ (a' := ?_) ?_ ?_
                   rotate_left
                   ·simp only [putAll, Act.put, List.setIfInBounds_toArray, List.set_cons_zero, List.set_cons_succ]
                    rfl
                   refine two_ (i := 2) (j := 11) (Ni := some 27) (Nj := some 6) #[true, true, true, true, true, false, true, true, true, false, false, false, false] #[true, true, false, true, true, false, true, true, true, false, false, true, false] rfl rfl rfl rfl (two_of HT_.out (by kernel_rfl)) (by decide) (by decide) (fun K hK => ?_) (fun K hK => ?_)
                   ·skip
                    refine Kd.R_lit_step k44 _ 44 ?hg (N := 27) ?hd (xs := ([] : List (S44))) (inner := []) (ok := fun _ => True) (okp := fun _ => True) ?hr ?hp (fun _ hk => hk) trivial (Below.refl _ _) (Nat.le_refl _) (by simp) ?_; (case hd => rfl); (case hg => rfl); (case hr => ((go_simp; done))); (case hp => exact (Reps.none _ _))
                    intro qaf w23 ho24 hb hg_ hnew_
                    clear hg_ hnew_
                    ((rw [← qch.out] at ho24))
                    have n0_ := Aside0.mk (Kd.S_elder' (by exact HO_3.out) (Kd.R_base ho24) hb)
                    have n1_ := Aside0.mk (Kd.R_elder' (by exact qe.out) (Kd.R_base ho24) hb)
                    have n2_ := Aside0.mk (Kd.R_below (by exact qf.out) hb)
                    have n3_ := Aside0.mk (Kd.R_below (by exact qy.out) hb)
                    have n4_ := Aside0.mk (Kd.R_lower (Kd.R_new' ho24 (Kd.R_lt (by exact qe.out))) (below_size (by repeat (((with_reducible (exact HB.out)))))))
                    have n5_ := Aside0.mk (blk_below (g := qh) (o := .cells #[.bool a0_0, .slice A0_1 l0_1.length c0_1, .slice A0_2 l0_2.length c0_2] 25 (0, 0)) (by exact qd.out) hb)
                    have n6_ := Aside0.mk (blk_below (g := qi) (o := .cells #[.bool qk, .slice qm qb.length qn, .slice qp qc.length qo] 25 (0, 0)) (by exact qg.out) hb)
                    have n7_ := Aside0.mk (below_step (by repeat (((with_reducible (exact HB.out))))) hb)
                    clear HO_3 qe qf qy qd qg HB
                    have HO_3 := n0_
                    have qe := n1_
                    have qf := n2_
                    have qy := n3_
                    have qab := n4_
                    have qd := n5_
                    have qg := n6_
                    have HB := n7_
                    clear n0_ n1_ n2_ n3_ n4_ n5_ n6_ n7_ hb ho24
                    refine hK.out _ _ ⟨(blk_cell qd.out 0).trans rfl, (blk_cell qd.out 1).trans rfl, (blk_cell qd.out 2).trans rfl, (blk_cell qg.out 0).trans rfl, (blk_cell qg.out 1).trans rfl, (blk_cell qg.out 2).trans rfl⟩ (fun hHeld => ?_)
                    clear hK K
                    refine norm_ (a' := ?_) ?_ ?_
                    rotate_left
                    ·show Act.put _ (some 27) _ = _
                     simp only [Act.put, List.setIfInBounds_toArray, List.set_cons_zero, List.set_cons_succ, i64_w, i32_w]
                     rfl
                    exact norm_ (by ((simp only [putAll, Act.put, List.setIfInBounds_toArray, List.set_cons_zero, List.set_cons_succ]; done))) (hJ2_6 (qaf, qae) _ ⟨hHeld, (by exact Kd.R_mono qab.out (fun _ hk => hk.2)), (by exact qy.out), (by exact Kd.R_mono qe.out (fun _ hk => hk.2)), (by exact qf.out), (by exact Kd.S_mono HO_3.out (fun _ hk => ⟨hk.2, ⟨hk.1.1, ⟨hk.1.2.1, ⟨hk.1.2.2.1, ⟨hk.1.2.2.2.1, hk.1.2.2.2.2⟩⟩⟩⟩⟩)), (by exact qd.out), (by exact qg.out), (by repeat (((with_reducible (exact HB.out)))))⟩)
                   ·skip
                    refine box_step ?hg (N := 6) ?hd (cs := #[.bool false, .slice none 0 0, .slice none 0 0]) (t := 25) ?hr ?_; (case hd => rfl); (case hg => rfl); (case hr => ((go_simp; done)))
                    intro qj hg w23 hbox hb
                    have n0_ := Aside0.mk (Kd.S_below (Kd.S_elderB (by exact HO_3.out) qj (Nat.le_of_eq hg.symm)) hb)
                    have n1_ := Aside0.mk (Kd.R_below (by exact qe.out) hb)
                    have n2_ := Aside0.mk (Kd.R_below (by exact qf.out) hb)
                    have n3_ := Aside0.mk (Kd.R_below (by exact qy.out) hb)
                    have n4_ := Aside0.mk (blk_below (g := qh) (o := .cells #[.bool a0_0, .slice A0_1 l0_1.length c0_1, .slice A0_2 l0_2.length c0_2] 25 (0, 0)) (by exact qd.out) hb)
                    have n5_ := Aside0.mk (blk_below (g := qi) (o := .cells #[.bool qk, .slice qm qb.length qn, .slice qp qc.length qo] 25 (0, 0)) (by exact qg.out) hb)
                    have n6_ := Aside0.mk (below_step (by repeat (((with_reducible (exact HB.out))))) hb)
                    have n7_ := Aside0.mk (hbox)
                    have n8_ := Aside0.mk ((by rw [hg]; exact (below_size (by repeat (((with_reducible (exact HB.out)))))) : w.heap.size ≤ qj))
                    have n9_ := Aside0.mk ((by rw [hg]; exact (below_size (by repeat (((with_reducible (exact HB.out)))))) : w.heap.size ≤ qj))
                    have n10_ := Aside0.mk ((by rw [hg]; exact Nat.ne_of_lt (blk_lt (g := qh) (o := .cells #[.bool a0_0, .slice A0_1 l0_1.length c0_1, .slice A0_2 l0_2.length c0_2] 25 (0, 0)) (by exact qd.out)) : qh ≠ qj))
                    have n11_ := Aside0.mk ((by rw [hg]; exact Nat.ne_of_gt (blk_lt (g := qh) (o := .cells #[.bool a0_0, .slice A0_1 l0_1.length c0_1, .slice A0_2 l0_2.length c0_2] 25 (0, 0)) (by exact qd.out)) : qj ≠ qh))
                    have n12_ := Aside0.mk ((by rw [hg]; exact Nat.ne_of_lt (blk_lt (g := qi) (o := .cells #[.bool qk, .slice qm qb.length qn, .slice qp qc.length qo] 25 (0, 0)) (by exact qg.out)) : qi ≠ qj))
                    have n13_ := Aside0.mk ((by rw [hg]; exact Nat.ne_of_gt (blk_lt (g := qi) (o := .cells #[.bool qk, .slice qm qb.length qn, .slice qp qc.length qo] 25 (0, 0)) (by exact qg.out)) : qj ≠ qi))
                    clear HO_3 qe qf qy qd qg HB
                    have HO_3 := n0_
                    have qe := n1_
                    have qf := n2_
                    have qy := n3_
                    have qd := n4_
                    have qg := n5_
                    have HB := n6_
                    have ql := n7_
                    have GW217 := n8_
                    have qai := n9_
                    have qs := n10_
                    have qv := n11_
                    have qt := n12_
                    have qw := n13_
                    clear n0_ n1_ n2_ n3_ n4_ n5_ n6_ n7_ n8_ n9_ n10_ n11_ n12_ n13_ hb hbox hg
                    refine hK.out _ _ ⟨(blk_cell qd.out 0).trans rfl, (blk_cell qd.out 1).trans rfl, (blk_cell qd.out 2).trans rfl, (blk_cell qg.out 0).trans rfl, (blk_cell qg.out 1).trans rfl, (blk_cell qg.out 2).trans rfl⟩ (fun hHeld => ?_)
                    clear hK K
                    refine norm_ (a' := ?_) ?_ ?_
                    rotate_left
                    ·show Act.put _ (some 6) _ = _
                     simp only [Act.put, List.setIfInBounds_toArray, List.set_cons_zero, List.set_cons_succ, i64_w, i32_w]
                     rfl
                    exact norm_ (by ((simp only [putAll, Act.put, List.setIfInBounds_toArray, List.set_cons_zero, List.set_cons_succ]; done))) (hJ6_11 (qae, qj) _ ⟨hHeld, (by exact qy.out), (by exact qe.out), (by exact qf.out), (by exact Kd.S_mono HO_3.out (fun _ hk => ⟨hk.1.1, ⟨hk.1.2.1, ⟨hk.1.2.2.1, ⟨hk.1.2.2.2.1, ⟨hk.1.2.2.2.2, hk.2⟩⟩⟩⟩⟩)), (by exact qd.out), (by exact qg.out), (by exact ql.out), GW217.out, qai.out, qs.out, qv.out, qt.out, qw.out, (by repeat (((with_reducible (exact HB.out)))))⟩)
                 ·skip
                  rintro qaf w22 ⟨hS_, h0_, h1_, h2_, h3_, h4_, h5_, h6_⟩
                  have n0_ : Aside0 (Kd.R k44 44 w22 w.heap.size (fun k_ => some k_ ≠ (.slice qm qb.length qn : Value).ownBlock) qaf qbi) := ⟨h0_⟩
                  have n1_ : Aside0 (Kd.R k44 44 w22 w.heap.size (fun k_ => some k_ ≠ (qaf : Value).ownBlock) (.slice qm qb.length qn) qb) := ⟨h1_⟩
                  have n2_ : Aside0 (Kd.R k46 46 w22 w.heap.size (fun _ => True) (.slice qp qc.length qo) qc) := ⟨h2_⟩
                  have n3_ : Aside0 (Kd.S k25 25 w22 w.heap.size (fun k_ => some k_ ≠ (qaf : Value).ownBlock ∧ some k_ ≠ (.slice qm qb.length qn : Value).ownBlock ∧ some k_ ≠ (.slice qp qc.length qo : Value).ownBlock ∧ k_ ≠ qh ∧ k_ ≠ qi) u3 x3_1) := ⟨h3_⟩
                  have n4_ : Aside0 (w22.heap[qh]? = some (.cells #[.bool a0_0, .slice A0_1 l0_1.length c0_1, .slice A0_2 l0_2.length c0_2] 25 (0, 0))) := ⟨h4_⟩
                  have n5_ : Aside0 (w22.heap[qi]? = some (.cells #[.bool qk, .slice qm qb.length qn, .slice qp qc.length qo] 25 (0, 0))) := ⟨h5_⟩
                  have n6_ : Aside0 (Below w.heap.size w w22) := ⟨h6_⟩
                  clear HO_3 qe qf qd qg HB h0_ h1_ h2_ h3_ h4_ h5_ h6_
                  have qab := n0_
                  have qe := n1_
                  have qf := n2_
                  have HO_3 := n3_
                  have qd := n4_
                  have qg := n5_
                  have HB := n6_
                  clear n0_ n1_ n2_ n3_ n4_ n5_ n6_
                  have hHeld : w22.cell? ⟨qh, 0, none⟩ = some (.bool a0_0) ∧ w22.cell? ⟨qh, 1, none⟩ = some (.slice A0_1 l0_1.length c0_1) ∧ w22.cell? ⟨qh, 2, none⟩ = some (.slice A0_2 l0_2.length c0_2) ∧ w22.cell? ⟨qi, 0, none⟩ = some (.bool qk) ∧ w22.cell? ⟨qi, 1, none⟩ = some (.slice qm qb.length qn) ∧ w22.cell? ⟨qi, 2, none⟩ = some (.slice qp qc.length qo) := hS_
                  refine norm_ (a' := ?_) ?_ ?_
                  rotate_left
                  ·simp only [putAll, Act.put, List.setIfInBounds_toArray, List.set_cons_zero, List.set_cons_succ]
                   rfl
                  refine three_ (i := 5) (j := 6) (k := 11) (Ni := some 30) (Nj := some 31) (Nk := some 6) #[true, true, true, true, true, true, false, true, true, false, false, false, false] #[true, true, true, true, true, false, true, true, true, false, false, false, false] #[true, true, true, true, true, false, false, true, true, false, false, true, false] rfl rfl rfl rfl rfl rfl (three_of HT_.out (by kernel_rfl)) (by decide) (by decide) (by decide) (fun K hK => ?_) (fun K hK => ?_) (fun K hK => ?_)
                  ·skip
                   refine Kd.R_append_rows_step k44 (w0 := w) w.heap.size (by rfl) (.tmp 27) (.tmp 29) 22 44 (.agg #[(.string ⟨#[]⟩), (.string ⟨#[]⟩)]) 32 rfl Try.underlying22 info44 rfl (by decide) (by omega) qaf qbi qb _ _ _ (fun k_ => some k_ ≠ (.slice qm qb.length qn : Value).ownBlock) (fun _ => False) rfl rfl ?aO ?aR (fun _ _ h => h) (fun _ h => h.elim) ?aF ?aB ?aS ?aL ?_
                   (case aR => repeat ((exact (Kd.R_reads' qe.out).2.2)))
                   (case aB => exact (by repeat (((with_reducible (exact HB.out))))))
                   (case aF => exact (fun k_ hk => Kd.fresh' (Kd.R_lt (by exact qe.out)) k_ hk))
                   (case aO => exact (by exact qab.out))
                   (case aS => exact (below_size (by repeat (((with_reducible (exact HB.out)))))))
                   (case aL => have := qcj.out; omega)
                   intro qaj w23 ho hb hg hat
                   rw [← qck.out] at ho
                   have n0_ := Aside0.mk (Kd.S_after (ok := (fun k_ => some k_ ≠ (.slice qm qb.length qn : Value).ownBlock ∧ some k_ ≠ (.slice qp qc.length qo : Value).ownBlock ∧ k_ ≠ qh ∧ k_ ≠ qi)) (by exact Kd.S_mono HO_3.out (fun _ hk => ⟨⟨hk.2.1, ⟨hk.2.2.1, ⟨hk.2.2.2.1, hk.2.2.2.2⟩⟩⟩, hk.1⟩)) hg hat)
                   have n1_ := Aside0.mk (Kd.R_after (ok := (fun _ => True)) (by exact Kd.R_mono qe.out (fun _ hk => ⟨trivial, hk⟩)) hg hat)
                   have n2_ := Aside0.mk (Kd.R_over' (by exact qf.out) (Kd.R_typed (by exact qab.out)) (by decide) hg)
                   have n3_ := Aside0.mk (blk_grown (g := qh) (o := .cells #[.bool a0_0, .slice A0_1 l0_1.length c0_1, .slice A0_2 l0_2.length c0_2] 25 (0, 0)) (by exact qd.out) hg (Kd.R_ne qab.out qd.out (by decide)))
                   have n4_ := Aside0.mk (blk_grown (g := qi) (o := .cells #[.bool qk, .slice qm qb.length qn, .slice qp qc.length qo] 25 (0, 0)) (by exact qg.out) hg (Kd.R_ne qab.out qg.out (by decide)))
                   have n5_ := Aside0.mk (hb)
                   have n6_ := Aside0.mk (ho)
                   clear HO_3 qe qf qd qg HB qab
                   have HO_3 := n0_
                   have qe := n1_
                   have qf := n2_
                   have qd := n3_
                   have qg := n4_
                   have HB := n5_
                   have qu := n6_
                   clear n0_ n1_ n2_ n3_ n4_ n5_ n6_ ho hb hg hat
                   refine hK.out _ _ ⟨(blk_cell qd.out 0).trans rfl, (blk_cell qd.out 1).trans rfl, (blk_cell qd.out 2).trans rfl, (blk_cell qg.out 0).trans rfl, (blk_cell qg.out 1).trans rfl, (blk_cell qg.out 2).trans rfl⟩ (fun hHeld => ?_)
                   clear hK K
                   refine norm_ (a' := ?_) ?_ ?_
                   rotate_left
                   ·show Act.put _ (some 30) _ = _
                    simp only [Act.put, List.setIfInBounds_toArray, List.set_cons_zero, List.set_cons_succ, i64_w, i32_w]
                    rfl
                   exact norm_ (by ((simp only [putAll, Act.put, List.setIfInBounds_toArray, List.set_cons_zero, List.set_cons_succ]; done))) (hJ2_5 (qaf, qaj) _ ⟨hHeld, (by exact qu.out), (by exact Kd.R_mono qe.out (fun _ hk => hk.2)), (by exact qf.out), (by exact Kd.S_mono HO_3.out (fun _ hk => ⟨hk.2, ⟨hk.1.1, ⟨hk.1.2.1, ⟨hk.1.2.2.1, hk.1.2.2.2⟩⟩⟩⟩)), (by exact qd.out), (by exact qg.out), (by repeat (((with_reducible (exact HB.out)))))⟩)
                  ·skip
                   refine Kd.R_lit_step k46 _ 46 ?hg (N := 31) ?hd (xs := ([] : List (S46))) (inner := []) (ok := fun _ => True) (okp := fun _ => True) ?hr ?hp (fun _ hk => hk) trivial (Below.refl _ _) (Nat.le_refl _) (by simp) ?_; (case hd => rfl); (case hg => rfl); (case hr => ((go_simp; done))); (case hp => exact (Reps.none _ _))
                   intro qae w23 ho24 hb hg_ hnew_
                   clear hg_ hnew_
                   ((rw [← qca.out] at ho24))
                   have n0_ := Aside0.mk (Kd.S_elder' (by exact HO_3.out) (Kd.R_base ho24) hb)
                   have n1_ := Aside0.mk (Kd.R_below (by exact qe.out) hb)
                   have n2_ := Aside0.mk (Kd.R_elder' (by exact qf.out) (Kd.R_base ho24) hb)
                   have n3_ := Aside0.mk (Kd.R_below (by exact qab.out) hb)
                   have n4_ := Aside0.mk (Kd.R_lower (Kd.R_new' ho24 (Kd.R_lt (by exact qf.out))) (below_size (by repeat (((with_reducible (exact HB.out)))))))
                   have n5_ := Aside0.mk (blk_below (g := qh) (o := .cells #[.bool a0_0, .slice A0_1 l0_1.length c0_1, .slice A0_2 l0_2.length c0_2] 25 (0, 0)) (by exact qd.out) hb)
                   have n6_ := Aside0.mk (blk_below (g := qi) (o := .cells #[.bool qk, .slice qm qb.length qn, .slice qp qc.length qo] 25 (0, 0)) (by exact qg.out) hb)
                   have n7_ := Aside0.mk (below_step (by repeat (((with_reducible (exact HB.out))))) hb)
                   clear HO_3 qe qf qab qd qg HB
                   have HO_3 := n0_
                   have qe := n1_
                   have qf := n2_
                   have qab := n3_
                   have qy := n4_
                   have qd := n5_
                   have qg := n6_
                   have HB := n7_
                   clear n0_ n1_ n2_ n3_ n4_ n5_ n6_ n7_ hb ho24
                   refine hK.out _ _ ⟨(blk_cell qd.out 0).trans rfl, (blk_cell qd.out 1).trans rfl, (blk_cell qd.out 2).trans rfl, (blk_cell qg.out 0).trans rfl, (blk_cell qg.out 1).trans rfl, (blk_cell qg.out 2).trans rfl⟩ (fun hHeld => ?_)
                   clear hK K
                   refine norm_ (a' := ?_) ?_ ?_
                   rotate_left
                   ·show Act.put _ (some 31) _ = _
                    simp only [Act.put, List.setIfInBounds_toArray, List.set_cons_zero, List.set_cons_succ, i64_w, i32_w]
                    rfl
                   exact norm_ (by ((simp only [putAll, Act.put, List.setIfInBounds_toArray, List.set_cons_zero, List.set_cons_succ]; done))) (hJ2_6 (qaf, qae) _ ⟨hHeld, (by exact qab.out), (by exact Kd.R_mono qy.out (fun _ hk => hk.2)), (by exact qe.out), (by exact Kd.R_mono qf.out (fun _ hk => hk.2)), (by exact Kd.S_mono HO_3.out (fun _ hk => ⟨hk.1.1, ⟨hk.2, ⟨hk.1.2.1, ⟨hk.1.2.2.1, ⟨hk.1.2.2.2.1, hk.1.2.2.2.2⟩⟩⟩⟩⟩)), (by exact qd.out), (by exact qg.out), (by repeat (((with_reducible (exact HB.out)))))⟩)
                  ·skip
                   refine box_step ?hg (N := 6) ?hd (cs := #[.bool false, .slice none 0 0, .slice none 0 0]) (t := 25) ?hr ?_; (case hd => rfl); (case hg => rfl); (case hr => ((go_simp; done)))
                   intro qj hg w23 hbox hb
                   have n0_ := Aside0.mk (Kd.S_below (Kd.S_elderB (by exact HO_3.out) qj (Nat.le_of_eq hg.symm)) hb)
                   have n1_ := Aside0.mk (Kd.R_below (by exact qe.out) hb)
                   have n2_ := Aside0.mk (Kd.R_below (by exact qf.out) hb)
                   have n3_ := Aside0.mk (Kd.R_below (by exact qab.out) hb)
                   have n4_ := Aside0.mk (blk_below (g := qh) (o := .cells #[.bool a0_0, .slice A0_1 l0_1.length c0_1, .slice A0_2 l0_2.length c0_2] 25 (0, 0)) (by exact qd.out) hb)
                   have n5_ := Aside0.mk (blk_below (g := qi) (o := .cells #[.bool qk, .slice qm qb.length qn, .slice qp qc.length qo] 25 (0, 0)) (by exact qg.out) hb)
                   have n6_ := Aside0.mk (below_step (by repeat (((with_reducible (exact HB.out))))) hb)
                   have n7_ := Aside0.mk (hbox)
                   have n8_ := Aside0.mk ((by rw [hg]; exact (below_size (by repeat (((with_reducible (exact HB.out)))))) : w.heap.size ≤ qj))
                   have n9_ := Aside0.mk ((by rw [hg]; exact (below_size (by repeat (((with_reducible (exact HB.out)))))) : w.heap.size ≤ qj))
                   have n10_ := Aside0.mk ((by rw [hg]; exact Nat.ne_of_lt (blk_lt (g := qh) (o := .cells #[.bool a0_0, .slice A0_1 l0_1.length c0_1, .slice A0_2 l0_2.length c0_2] 25 (0, 0)) (by exact qd.out)) : qh ≠ qj))
                   have n11_ := Aside0.mk ((by rw [hg]; exact Nat.ne_of_gt (blk_lt (g := qh) (o := .cells #[.bool a0_0, .slice A0_1 l0_1.length c0_1, .slice A0_2 l0_2.length c0_2] 25 (0, 0)) (by exact qd.out)) : qj ≠ qh))
                   have n12_ := Aside0.mk ((by rw [hg]; exact Nat.ne_of_lt (blk_lt (g := qi) (o := .cells #[.bool qk, .slice qm qb.length qn, .slice qp qc.length qo] 25 (0, 0)) (by exact qg.out)) : qi ≠ qj))
                   have n13_ := Aside0.mk ((by rw [hg]; exact Nat.ne_of_gt (blk_lt (g := qi) (o := .cells #[.bool qk, .slice qm qb.length qn, .slice qp qc.length qo] 25 (0, 0)) (by exact qg.out)) : qj ≠ qi))
                   clear HO_3 qe qf qab qd qg HB
                   have HO_3 := n0_
                   have qe := n1_
                   have qf := n2_
                   have qab := n3_
                   have qd := n4_
                   have qg := n5_
                   have HB := n6_
                   have ql := n7_
                   have GW217 := n8_
                   have qai := n9_
                   have qs := n10_
                   have qv := n11_
                   have qt := n12_
                   have qw := n13_
                   clear n0_ n1_ n2_ n3_ n4_ n5_ n6_ n7_ n8_ n9_ n10_ n11_ n12_ n13_ hb hbox hg
                   refine hK.out _ _ ⟨(blk_cell qd.out 0).trans rfl, (blk_cell qd.out 1).trans rfl, (blk_cell qd.out 2).trans rfl, (blk_cell qg.out 0).trans rfl, (blk_cell qg.out 1).trans rfl, (blk_cell qg.out 2).trans rfl⟩ (fun hHeld => ?_)
                   clear hK K
                   refine norm_ (a' := ?_) ?_ ?_
                   rotate_left
                   ·show Act.put _ (some 6) _ = _
                    simp only [Act.put, List.setIfInBounds_toArray, List.set_cons_zero, List.set_cons_succ, i64_w, i32_w]
                    rfl
                   exact norm_ (by ((simp only [putAll, Act.put, List.setIfInBounds_toArray, List.set_cons_zero, List.set_cons_succ]; done))) (hJ2_11 (qaf, qj) _ ⟨hHeld, (by exact qab.out), (by exact qe.out), (by exact qf.out), (by exact Kd.S_mono HO_3.out (fun _ hk => ⟨hk.1.1, ⟨hk.1.2.1, ⟨hk.1.2.2.1, ⟨hk.1.2.2.2.1, ⟨hk.1.2.2.2.2, hk.2⟩⟩⟩⟩⟩)), (by exact qd.out), (by exact qg.out), (by exact ql.out), GW217.out, qai.out, qs.out, qv.out, qt.out, qw.out, (by repeat (((with_reducible (exact HB.out)))))⟩)
                ·skip
                 rintro ⟨qae, qj⟩ w23 ⟨hS_, h0_, h1_, h2_, h3_, h4_, h5_, h6_, h7_, h8_, h9_, h10_, h11_, h12_, h13_⟩
                 have n0_ : Aside0 (Kd.R k46 46 w23 w.heap.size (fun k_ => some k_ ≠ (.slice qp qc.length qo : Value).ownBlock) qae qbd) := ⟨h0_⟩
                 have n1_ : Aside0 (Kd.R k44 44 w23 w.heap.size (fun _ => True) (.slice qm qb.length qn) qb) := ⟨h1_⟩
                 have n2_ : Aside0 (Kd.R k46 46 w23 w.heap.size (fun k_ => some k_ ≠ (qae : Value).ownBlock) (.slice qp qc.length qo) qc) := ⟨h2_⟩
                 have n3_ : Aside0 (Kd.S k25 25 w23 w.heap.size (fun k_ => some k_ ≠ (qae : Value).ownBlock ∧ some k_ ≠ (.slice qm qb.length qn : Value).ownBlock ∧ some k_ ≠ (.slice qp qc.length qo : Value).ownBlock ∧ k_ ≠ qh ∧ k_ ≠ qi ∧ k_ ≠ qj) u3 x3_1) := ⟨h3_⟩
                 have n4_ : Aside0 (w23.heap[qh]? = some (.cells #[.bool a0_0, .slice A0_1 l0_1.length c0_1, .slice A0_2 l0_2.length c0_2] 25 (0, 0))) := ⟨h4_⟩
                 have n5_ : Aside0 (w23.heap[qi]? = some (.cells #[.bool qk, .slice qm qb.length qn, .slice qp qc.length qo] 25 (0, 0))) := ⟨h5_⟩
                 have n6_ : Aside0 (w23.heap[qj]? = some (.cells #[.bool false, .slice none 0 0, .slice none 0 0] 25 (0, 0))) := ⟨h6_⟩
                 have n7_ : Aside0 (w.heap.size ≤ qj) := ⟨h7_⟩
                 have n8_ : Aside0 (w.heap.size ≤ qj) := ⟨h8_⟩
                 have n9_ : Aside0 (qh ≠ qj) := ⟨h9_⟩
                 have n10_ : Aside0 (qj ≠ qh) := ⟨h10_⟩
                 have n11_ : Aside0 (qi ≠ qj) := ⟨h11_⟩
                 have n12_ : Aside0 (qj ≠ qi) := ⟨h12_⟩
                 have n13_ : Aside0 (Below w.heap.size w w23) := ⟨h13_⟩
                 clear HO_3 qe qf qd qg HB h0_ h1_ h2_ h3_ h4_ h5_ h6_ h7_ h8_ h9_ h10_ h11_ h12_ h13_
                 have qy := n0_
                 have qe := n1_
                 have qf := n2_
                 have HO_3 := n3_
                 have qd := n4_
                 have qg := n5_
                 have ql := n6_
                 have GW217 := n7_
                 have qai := n8_
                 have qs := n9_
                 have qv := n10_
                 have qt := n11_
                 have qw := n12_
                 have HB := n13_
                 clear n0_ n1_ n2_ n3_ n4_ n5_ n6_ n7_ n8_ n9_ n10_ n11_ n12_ n13_
                 have hHeld : w23.cell? ⟨qh, 0, none⟩ = some (.bool a0_0) ∧ w23.cell? ⟨qh, 1, none⟩ = some (.slice A0_1 l0_1.length c0_1) ∧ w23.cell? ⟨qh, 2, none⟩ = some (.slice A0_2 l0_2.length c0_2) ∧ w23.cell? ⟨qi, 0, none⟩ = some (.bool qk) ∧ w23.cell? ⟨qi, 1, none⟩ = some (.slice qm qb.length qn) ∧ w23.cell? ⟨qi, 2, none⟩ = some (.slice qp qc.length qo) := hS_
                 refine norm_ (a' := ?_) ?_ ?_
                 rotate_left
                 ·simp only [putAll, Act.put, List.setIfInBounds_toArray, List.set_cons_zero, List.set_cons_succ]
                  rfl
                 refine one_ (i := 2) (N := some 27) #[true, true, true, true, true, false, true, true, true, false, false, true, false] rfl rfl (one_of HT_.out (by kernel_rfl)) (by decide) (fun K hK => ?_)
                 refine Kd.R_lit_step k44 _ 44 ?hg (N := 27) ?hd (xs := ([] : List (S44))) (inner := []) (ok := fun _ => True) (okp := fun _ => True) ?hr ?hp (fun _ hk => hk) trivial (Below.refl _ _) (Nat.le_refl _) (by simp) ?_; (case hd => rfl); (case hg => rfl); (case hr => ((go_simp; done))); (case hp => exact (Reps.none _ _))
                 intro qaf w24 ho25 hb hg_ hnew_
                 clear hg_ hnew_
                 ((rw [← qch.out] at ho25))
                 have n0_ := Aside0.mk (Kd.S_elder' (by exact HO_3.out) (Kd.R_base ho25) hb)
                 have n1_ := Aside0.mk (Kd.R_elder' (by exact qe.out) (Kd.R_base ho25) hb)
                 have n2_ := Aside0.mk (Kd.R_below (by exact qf.out) hb)
                 have n3_ := Aside0.mk (Kd.R_below (by exact qy.out) hb)
                 have n4_ := Aside0.mk (Kd.R_lower (Kd.R_new' ho25 (Kd.R_lt (by exact qe.out))) (below_size (by repeat (((with_reducible (exact HB.out)))))))
                 have n5_ := Aside0.mk (blk_below (g := qh) (o := .cells #[.bool a0_0, .slice A0_1 l0_1.length c0_1, .slice A0_2 l0_2.length c0_2] 25 (0, 0)) (by exact qd.out) hb)
                 have n6_ := Aside0.mk (blk_below (g := qi) (o := .cells #[.bool qk, .slice qm qb.length qn, .slice qp qc.length qo] 25 (0, 0)) (by exact qg.out) hb)
                 have n7_ := Aside0.mk (blk_below (g := qj) (o := .cells #[.bool false, .slice none 0 0, .slice none 0 0] 25 (0, 0)) (by exact ql.out) hb)
                 have n8_ := Aside0.mk (below_step (by repeat (((with_reducible (exact HB.out))))) hb)
                 clear HO_3 qe qf qy qd qg ql HB
                 have HO_3 := n0_
                 have qe := n1_
                 have qf := n2_
                 have qy := n3_
                 have qab := n4_
                 have qd := n5_
                 have qg := n6_
                 have ql := n7_
                 have HB := n8_
                 clear n0_ n1_ n2_ n3_ n4_ n5_ n6_ n7_ n8_ hb ho25
                 refine hK.out _ _ ⟨(blk_cell qd.out 0).trans rfl, (blk_cell qd.out 1).trans rfl, (blk_cell qd.out 2).trans rfl, (blk_cell qg.out 0).trans rfl, (blk_cell qg.out 1).trans rfl, (blk_cell qg.out 2).trans rfl⟩ (fun hHeld => ?_)
                 clear hK K
                 refine norm_ (a' := ?_) ?_ ?_
                 rotate_left
                 ·show Act.put _ (some 27) _ = _
                  simp only [Act.put, List.setIfInBounds_toArray, List.set_cons_zero, List.set_cons_succ, i64_w, i32_w]
                  rfl
                 exact norm_ (by ((simp only [putAll, Act.put, List.setIfInBounds_toArray, List.set_cons_zero, List.set_cons_succ]; done))) (hJ2_6_11 (qaf, qae, qj) _ ⟨hHeld, (by exact Kd.R_mono qab.out (fun _ hk => hk.2)), (by exact qy.out), (by exact Kd.R_mono qe.out (fun _ hk => hk.2)), (by exact qf.out), (by exact Kd.S_mono HO_3.out (fun _ hk => ⟨hk.2, ⟨hk.1.1, ⟨hk.1.2.1, ⟨hk.1.2.2.1, ⟨hk.1.2.2.2.1, ⟨hk.1.2.2.2.2.1, hk.1.2.2.2.2.2⟩⟩⟩⟩⟩⟩)), (by exact qd.out), (by exact qg.out), (by exact ql.out), GW217.out, qai.out, qs.out, qv.out, qt.out, qw.out, (by repeat (((with_reducible (exact HB.out)))))⟩)
               ·skip
                rintro ⟨qaf, qj⟩ w23 ⟨hS_, h0_, h1_, h2_, h3_, h4_, h5_, h6_, h7_, h8_, h9_, h10_, h11_, h12_, h13_⟩
                have n0_ : Aside0 (Kd.R k44 44 w23 w.heap.size (fun k_ => some k_ ≠ (.slice qm qb.length qn : Value).ownBlock) qaf qbi) := ⟨h0_⟩
                have n1_ : Aside0 (Kd.R k44 44 w23 w.heap.size (fun k_ => some k_ ≠ (qaf : Value).ownBlock) (.slice qm qb.length qn) qb) := ⟨h1_⟩
                have n2_ : Aside0 (Kd.R k46 46 w23 w.heap.size (fun _ => True) (.slice qp qc.length qo) qc) := ⟨h2_⟩
                have n3_ : Aside0 (Kd.S k25 25 w23 w.heap.size (fun k_ => some k_ ≠ (qaf : Value).ownBlock ∧ some k_ ≠ (.slice qm qb.length qn : Value).ownBlock ∧ some k_ ≠ (.slice qp qc.length qo : Value).ownBlock ∧ k_ ≠ qh ∧ k_ ≠ qi ∧ k_ ≠ qj) u3 x3_1) := ⟨h3_⟩
                have n4_ : Aside0 (w23.heap[qh]? = some (.cells #[.bool a0_0, .slice A0_1 l0_1.length c0_1, .slice A0_2 l0_2.length c0_2] 25 (0, 0))) := ⟨h4_⟩
                have n5_ : Aside0 (w23.heap[qi]? = some (.cells #[.bool qk, .slice qm qb.length qn, .slice qp qc.length qo] 25 (0, 0))) := ⟨h5_⟩
                have n6_ : Aside0 (w23.heap[qj]? = some (.cells #[.bool false, .slice none 0 0, .slice none 0 0] 25 (0, 0))) := ⟨h6_⟩
                have n7_ : Aside0 (w.heap.size ≤ qj) := ⟨h7_⟩
                have n8_ : Aside0 (w.heap.size ≤ qj) := ⟨h8_⟩
                have n9_ : Aside0 (qh ≠ qj) := ⟨h9_⟩
                have n10_ : Aside0 (qj ≠ qh) := ⟨h10_⟩
                have n11_ : Aside0 (qi ≠ qj) := ⟨h11_⟩
                have n12_ : Aside0 (qj ≠ qi) := ⟨h12_⟩
                have n13_ : Aside0 (Below w.heap.size w w23) := ⟨h13_⟩
                clear HO_3 qe qf qd qg HB h0_ h1_ h2_ h3_ h4_ h5_ h6_ h7_ h8_ h9_ h10_ h11_ h12_ h13_
                have qab := n0_
                have qe := n1_
                have qf := n2_
                have HO_3 := n3_
                have qd := n4_
                have qg := n5_
                have ql := n6_
                have GW217 := n7_
                have qai := n8_
                have qs := n9_
                have qv := n10_
                have qt := n11_
                have qw := n12_
                have HB := n13_
                clear n0_ n1_ n2_ n3_ n4_ n5_ n6_ n7_ n8_ n9_ n10_ n11_ n12_ n13_
                have hHeld : w23.cell? ⟨qh, 0, none⟩ = some (.bool a0_0) ∧ w23.cell? ⟨qh, 1, none⟩ = some (.slice A0_1 l0_1.length c0_1) ∧ w23.cell? ⟨qh, 2, none⟩ = some (.slice A0_2 l0_2.length c0_2) ∧ w23.cell? ⟨qi, 0, none⟩ = some (.bool qk) ∧ w23.cell? ⟨qi, 1, none⟩ = some (.slice qm qb.length qn) ∧ w23.cell? ⟨qi, 2, none⟩ = some (.slice qp qc.length qo) := hS_
                refine norm_ (a' := ?_) ?_ ?_
                rotate_left
                ·simp only [putAll, Act.put, List.setIfInBounds_toArray, List.set_cons_zero, List.set_cons_succ]
                 rfl
                refine two_ (i := 5) (j := 6) (Ni := some 30) (Nj := some 31) #[true, true, true, true, true, true, false, true, true, false, false, true, false] #[true, true, true, true, true, false, true, true, true, false, false, true, false] rfl rfl rfl rfl (two_of HT_.out (by kernel_rfl)) (by decide) (by decide) (fun K hK => ?_) (fun K hK => ?_)
                ·skip
                 refine Kd.R_append_rows_step k44 (w0 := w) w.heap.size (by rfl) (.tmp 27) (.tmp 29) 22 44 (.agg #[(.string ⟨#[]⟩), (.string ⟨#[]⟩)]) 32 rfl Try.underlying22 info44 rfl (by decide) (by omega) qaf qbi qb _ _ _ (fun k_ => some k_ ≠ (.slice qm qb.length qn : Value).ownBlock) (fun _ => False) rfl rfl ?aO ?aR (fun _ _ h => h) (fun _ h => h.elim) ?aF ?aB ?aS ?aL ?_
                 (case aR => repeat ((exact (Kd.R_reads' qe.out).2.2)))
                 (case aB => exact (by repeat (((with_reducible (exact HB.out))))))
                 (case aF => exact (fun k_ hk => Kd.fresh' (Kd.R_lt (by exact qe.out)) k_ hk))
                 (case aO => exact (by exact qab.out))
                 (case aS => exact (below_size (by repeat (((with_reducible (exact HB.out)))))))
                 (case aL => have := qcj.out; omega)
                 intro qaj w24 ho hb hg hat
                 rw [← qck.out] at ho
                 have n0_ := Aside0.mk (Kd.S_after (ok := (fun k_ => some k_ ≠ (.slice qm qb.length qn : Value).ownBlock ∧ some k_ ≠ (.slice qp qc.length qo : Value).ownBlock ∧ k_ ≠ qh ∧ k_ ≠ qi ∧ k_ ≠ qj)) (by exact Kd.S_mono HO_3.out (fun _ hk => ⟨⟨hk.2.1, ⟨hk.2.2.1, ⟨hk.2.2.2.1, ⟨hk.2.2.2.2.1, hk.2.2.2.2.2⟩⟩⟩⟩, hk.1⟩)) hg hat)
                 have n1_ := Aside0.mk (Kd.R_after (ok := (fun _ => True)) (by exact Kd.R_mono qe.out (fun _ hk => ⟨trivial, hk⟩)) hg hat)
                 have n2_ := Aside0.mk (Kd.R_over' (by exact qf.out) (Kd.R_typed (by exact qab.out)) (by decide) hg)
                 have n3_ := Aside0.mk (blk_grown (g := qh) (o := .cells #[.bool a0_0, .slice A0_1 l0_1.length c0_1, .slice A0_2 l0_2.length c0_2] 25 (0, 0)) (by exact qd.out) hg (Kd.R_ne qab.out qd.out (by decide)))
                 have n4_ := Aside0.mk (blk_grown (g := qi) (o := .cells #[.bool qk, .slice qm qb.length qn, .slice qp qc.length qo] 25 (0, 0)) (by exact qg.out) hg (Kd.R_ne qab.out qg.out (by decide)))
                 have n5_ := Aside0.mk (blk_grown (g := qj) (o := .cells #[.bool false, .slice none 0 0, .slice none 0 0] 25 (0, 0)) (by exact ql.out) hg (Kd.R_ne qab.out ql.out (by decide)))
                 have n6_ := Aside0.mk (hb)
                 have n7_ := Aside0.mk (ho)
                 clear HO_3 qe qf qd qg ql HB qab
                 have HO_3 := n0_
                 have qe := n1_
                 have qf := n2_
                 have qd := n3_
                 have qg := n4_
                 have ql := n5_
                 have HB := n6_
                 have qu := n7_
                 clear n0_ n1_ n2_ n3_ n4_ n5_ n6_ n7_ ho hb hg hat
                 refine hK.out _ _ ⟨(blk_cell qd.out 0).trans rfl, (blk_cell qd.out 1).trans rfl, (blk_cell qd.out 2).trans rfl, (blk_cell qg.out 0).trans rfl, (blk_cell qg.out 1).trans rfl, (blk_cell qg.out 2).trans rfl⟩ (fun hHeld => ?_)
                 clear hK K
                 refine norm_ (a' := ?_) ?_ ?_
                 rotate_left
                 ·show Act.put _ (some 30) _ = _
                  simp only [Act.put, List.setIfInBounds_toArray, List.set_cons_zero, List.set_cons_succ, i64_w, i32_w]
                  rfl
                 exact norm_ (by ((simp only [putAll, Act.put, List.setIfInBounds_toArray, List.set_cons_zero, List.set_cons_succ]; done))) (hJ2_5_11 (qaf, qaj, qj) _ ⟨hHeld, (by exact qu.out), (by exact Kd.R_mono qe.out (fun _ hk => hk.2)), (by exact qf.out), (by exact Kd.S_mono HO_3.out (fun _ hk => ⟨hk.2, ⟨hk.1.1, ⟨hk.1.2.1, ⟨hk.1.2.2.1, ⟨hk.1.2.2.2.1, hk.1.2.2.2.2⟩⟩⟩⟩⟩)), (by exact qd.out), (by exact qg.out), (by exact ql.out), GW217.out, qai.out, qs.out, qv.out, qt.out, qw.out, (by repeat (((with_reducible (exact HB.out)))))⟩)
                ·skip
                 refine Kd.R_lit_step k46 _ 46 ?hg (N := 31) ?hd (xs := ([] : List (S46))) (inner := []) (ok := fun _ => True) (okp := fun _ => True) ?hr ?hp (fun _ hk => hk) trivial (Below.refl _ _) (Nat.le_refl _) (by simp) ?_; (case hd => rfl); (case hg => rfl); (case hr => ((go_simp; done))); (case hp => exact (Reps.none _ _))
                 intro qae w24 ho25 hb hg_ hnew_
                 clear hg_ hnew_
                 ((rw [← qca.out] at ho25))
                 have n0_ := Aside0.mk (Kd.S_elder' (by exact HO_3.out) (Kd.R_base ho25) hb)
                 have n1_ := Aside0.mk (Kd.R_below (by exact qe.out) hb)
                 have n2_ := Aside0.mk (Kd.R_elder' (by exact qf.out) (Kd.R_base ho25) hb)
                 have n3_ := Aside0.mk (Kd.R_below (by exact qab.out) hb)
                 have n4_ := Aside0.mk (Kd.R_lower (Kd.R_new' ho25 (Kd.R_lt (by exact qf.out))) (below_size (by repeat (((with_reducible (exact HB.out)))))))
                 have n5_ := Aside0.mk (blk_below (g := qh) (o := .cells #[.bool a0_0, .slice A0_1 l0_1.length c0_1, .slice A0_2 l0_2.length c0_2] 25 (0, 0)) (by exact qd.out) hb)
                 have n6_ := Aside0.mk (blk_below (g := qi) (o := .cells #[.bool qk, .slice qm qb.length qn, .slice qp qc.length qo] 25 (0, 0)) (by exact qg.out) hb)
                 have n7_ := Aside0.mk (blk_below (g := qj) (o := .cells #[.bool false, .slice none 0 0, .slice none 0 0] 25 (0, 0)) (by exact ql.out) hb)
                 have n8_ := Aside0.mk (below_step (by repeat (((with_reducible (exact HB.out))))) hb)
                 clear HO_3 qe qf qab qd qg ql HB
                 have HO_3 := n0_
                 have qe := n1_
                 have qf := n2_
                 have qab := n3_
                 have qy := n4_
                 have qd := n5_
                 have qg := n6_
                 have ql := n7_
                 have HB := n8_
                 clear n0_ n1_ n2_ n3_ n4_ n5_ n6_ n7_ n8_ hb ho25
                 refine hK.out _ _ ⟨(blk_cell qd.out 0).trans rfl, (blk_cell qd.out 1).trans rfl, (blk_cell qd.out 2).trans rfl, (blk_cell qg.out 0).trans rfl, (blk_cell qg.out 1).trans rfl, (blk_cell qg.out 2).trans rfl⟩ (fun hHeld => ?_)
                 clear hK K
                 refine norm_ (a' := ?_) ?_ ?_
                 rotate_left
                 ·show Act.put _ (some 31) _ = _
                  simp only [Act.put, List.setIfInBounds_toArray, List.set_cons_zero, List.set_cons_succ, i64_w, i32_w]
                  rfl
                 exact norm_ (by ((simp only [putAll, Act.put, List.setIfInBounds_toArray, List.set_cons_zero, List.set_cons_succ]; done))) (hJ2_6_11 (qaf, qae, qj) _ ⟨hHeld, (by exact qab.out), (by exact Kd.R_mono qy.out (fun _ hk => hk.2)), (by exact qe.out), (by exact Kd.R_mono qf.out (fun _ hk => hk.2)), (by exact Kd.S_mono HO_3.out (fun _ hk => ⟨hk.1.1, ⟨hk.2, ⟨hk.1.2.1, ⟨hk.1.2.2.1, ⟨hk.1.2.2.2.1, ⟨hk.1.2.2.2.2.1, hk.1.2.2.2.2.2⟩⟩⟩⟩⟩⟩)), (by exact qd.out), (by exact qg.out), (by exact ql.out), GW217.out, qai.out, qs.out, qv.out, qt.out, qw.out, (by repeat (((with_reducible (exact HB.out)))))⟩)
              ·skip
               rintro ⟨qaf, qae⟩ w24 ⟨hS_, h0_, h1_, h2_, h3_, h4_, h5_, h6_, h7_⟩
               have n0_ : Aside0 (Kd.R k44 44 w24 w.heap.size (fun k_ => some k_ ≠ (.slice qm qb.length qn : Value).ownBlock) qaf qbi) := ⟨h0_⟩
               have n1_ : Aside0 (Kd.R k46 46 w24 w.heap.size (fun k_ => some k_ ≠ (.slice qp qc.length qo : Value).ownBlock) qae qbd) := ⟨h1_⟩
               have n2_ : Aside0 (Kd.R k44 44 w24 w.heap.size (fun k_ => some k_ ≠ (qaf : Value).ownBlock) (.slice qm qb.length qn) qb) := ⟨h2_⟩
               have n3_ : Aside0 (Kd.R k46 46 w24 w.heap.size (fun k_ => some k_ ≠ (qae : Value).ownBlock) (.slice qp qc.length qo) qc) := ⟨h3_⟩
               have n4_ : Aside0 (Kd.S k25 25 w24 w.heap.size (fun k_ => some k_ ≠ (qaf : Value).ownBlock ∧ some k_ ≠ (qae : Value).ownBlock ∧ some k_ ≠ (.slice qm qb.length qn : Value).ownBlock ∧ some k_ ≠ (.slice qp qc.length qo : Value).ownBlock ∧ k_ ≠ qh ∧ k_ ≠ qi) u3 x3_1) := ⟨h4_⟩
               have n5_ : Aside0 (w24.heap[qh]? = some (.cells #[.bool a0_0, .slice A0_1 l0_1.length c0_1, .slice A0_2 l0_2.length c0_2] 25 (0, 0))) := ⟨h5_⟩
               have n6_ : Aside0 (w24.heap[qi]? = some (.cells #[.bool qk, .slice qm qb.length qn, .slice qp qc.length qo] 25 (0, 0))) := ⟨h6_⟩
               have n7_ : Aside0 (Below w.heap.size w w24) := ⟨h7_⟩
               clear HO_3 qe qf qd qg HB h0_ h1_ h2_ h3_ h4_ h5_ h6_ h7_
               have qab := n0_
               have qy := n1_
               have qe := n2_
               have qf := n3_
               have HO_3 := n4_
               have qd := n5_
               have qg := n6_
               have HB := n7_
               clear n0_ n1_ n2_ n3_ n4_ n5_ n6_ n7_
               have hHeld : w24.cell? ⟨qh, 0, none⟩ = some (.bool a0_0) ∧ w24.cell? ⟨qh, 1, none⟩ = some (.slice A0_1 l0_1.length c0_1) ∧ w24.cell? ⟨qh, 2, none⟩ = some (.slice A0_2 l0_2.length c0_2) ∧ w24.cell? ⟨qi, 0, none⟩ = some (.bool qk) ∧ w24.cell? ⟨qi, 1, none⟩ = some (.slice qm qb.length qn) ∧ w24.cell? ⟨qi, 2, none⟩ = some (.slice qp qc.length qo) := hS_
               refine norm_ (a' := ?_) ?_ ?_
               rotate_left
               ·simp only [putAll, Act.put, List.setIfInBounds_toArray, List.set_cons_zero, List.set_cons_succ]
                rfl
               refine two_ (i := 5) (j := 11) (Ni := some 30) (Nj := some 6) #[true, true, true, true, true, true, true, true, true, false, false, false, false] #[true, true, true, true, true, false, true, true, true, false, false, true, false] rfl rfl rfl rfl (two_of HT_.out (by kernel_rfl)) (by decide) (by decide) (fun K hK => ?_) (fun K hK => ?_)
               ·skip
                refine Kd.R_append_rows_step k44 (w0 := w) w.heap.size (by rfl) (.tmp 27) (.tmp 29) 22 44 (.agg #[(.string ⟨#[]⟩), (.string ⟨#[]⟩)]) 32 rfl Try.underlying22 info44 rfl (by decide) (by omega) qaf qbi qb _ _ _ (fun k_ => some k_ ≠ (.slice qm qb.length qn : Value).ownBlock) (fun _ => False) rfl rfl ?aO ?aR (fun _ _ h => h) (fun _ h => h.elim) ?aF ?aB ?aS ?aL ?_
                (case aR => repeat ((exact (Kd.R_reads' qe.out).2.2)))
                (case aB => exact (by repeat (((with_reducible (exact HB.out))))))
                (case aF => exact (fun k_ hk => Kd.fresh' (Kd.R_lt (by exact qe.out)) k_ hk))
                (case aO => exact (by exact qab.out))
                (case aS => exact (below_size (by repeat (((with_reducible (exact HB.out)))))))
                (case aL => have := qcj.out; omega)
                intro qaj w25 ho hb hg hat
                rw [← qck.out] at ho
                have n0_ := Aside0.mk (Kd.S_after (ok := (fun k_ => some k_ ≠ (.slice qm qb.length qn : Value).ownBlock ∧ some k_ ≠ (.slice qp qc.length qo : Value).ownBlock ∧ some k_ ≠ (qae : Value).ownBlock ∧ k_ ≠ qh ∧ k_ ≠ qi)) (by exact Kd.S_mono HO_3.out (fun _ hk => ⟨⟨hk.2.2.1, ⟨hk.2.2.2.1, ⟨hk.2.1, ⟨hk.2.2.2.2.1, hk.2.2.2.2.2⟩⟩⟩⟩, hk.1⟩)) hg hat)
                have n1_ := Aside0.mk (Kd.R_after (ok := (fun _ => True)) (by exact Kd.R_mono qe.out (fun _ hk => ⟨trivial, hk⟩)) hg hat)
                have n2_ := Aside0.mk (Kd.R_over' (by exact qf.out) (Kd.R_typed (by exact qab.out)) (by decide) hg)
                have n3_ := Aside0.mk (blk_grown (g := qh) (o := .cells #[.bool a0_0, .slice A0_1 l0_1.length c0_1, .slice A0_2 l0_2.length c0_2] 25 (0, 0)) (by exact qd.out) hg (Kd.R_ne qab.out qd.out (by decide)))
                have n4_ := Aside0.mk (blk_grown (g := qi) (o := .cells #[.bool qk, .slice qm qb.length qn, .slice qp qc.length qo] 25 (0, 0)) (by exact qg.out) hg (Kd.R_ne qab.out qg.out (by decide)))
                have n5_ := Aside0.mk (Kd.R_over' (by exact qy.out) (Kd.R_typed (by exact qab.out)) (by decide) hg)
                have n6_ := Aside0.mk (hb)
                have n7_ := Aside0.mk (ho)
                clear HO_3 qe qf qd qg qy HB qab
                have HO_3 := n0_
                have qe := n1_
                have qf := n2_
                have qd := n3_
                have qg := n4_
                have qy := n5_
                have HB := n6_
                have qu := n7_
                clear n0_ n1_ n2_ n3_ n4_ n5_ n6_ n7_ ho hb hg hat
                refine hK.out _ _ ⟨(blk_cell qd.out 0).trans rfl, (blk_cell qd.out 1).trans rfl, (blk_cell qd.out 2).trans rfl, (blk_cell qg.out 0).trans rfl, (blk_cell qg.out 1).trans rfl, (blk_cell qg.out 2).trans rfl⟩ (fun hHeld => ?_)
                clear hK K
                refine norm_ (a' := ?_) ?_ ?_
                rotate_left
                ·show Act.put _ (some 30) _ = _
                 simp only [Act.put, List.setIfInBounds_toArray, List.set_cons_zero, List.set_cons_succ, i64_w, i32_w]
                 rfl
                exact norm_ (by ((simp only [putAll, Act.put, List.setIfInBounds_toArray, List.set_cons_zero, List.set_cons_succ]; done))) (hJ2_5_6 (qaf, qaj, qae) _ ⟨hHeld, (by exact qu.out), (by exact qy.out), (by exact Kd.R_mono qe.out (fun _ hk => hk.2)), (by exact qf.out), (by exact Kd.S_mono HO_3.out (fun _ hk => ⟨hk.2, ⟨hk.1.2.2.1, ⟨hk.1.1, ⟨hk.1.2.1, ⟨hk.1.2.2.2.1, hk.1.2.2.2.2⟩⟩⟩⟩⟩)), (by exact qd.out), (by exact qg.out), (by repeat (((with_reducible (exact HB.out)))))⟩)
               ·skip
                refine box_step ?hg (N := 6) ?hd (cs := #[.bool false, .slice none 0 0, .slice none 0 0]) (t := 25) ?hr ?_; (case hd => rfl); (case hg => rfl); (case hr => ((go_simp; done)))
                intro qj hg w25 hbox hb
                have n0_ := Aside0.mk (Kd.S_below (Kd.S_elderB (by exact HO_3.out) qj (Nat.le_of_eq hg.symm)) hb)
                have n1_ := Aside0.mk (Kd.R_below (by exact qe.out) hb)
                have n2_ := Aside0.mk (Kd.R_below (by exact qf.out) hb)
                have n3_ := Aside0.mk (Kd.R_below (by exact qab.out) hb)
                have n4_ := Aside0.mk (Kd.R_below (by exact qy.out) hb)
                have n5_ := Aside0.mk (blk_below (g := qh) (o := .cells #[.bool a0_0, .slice A0_1 l0_1.length c0_1, .slice A0_2 l0_2.length c0_2] 25 (0, 0)) (by exact qd.out) hb)
                have n6_ := Aside0.mk (blk_below (g := qi) (o := .cells #[.bool qk, .slice qm qb.length qn, .slice qp qc.length qo] 25 (0, 0)) (by exact qg.out) hb)
                have n7_ := Aside0.mk (below_step (by repeat (((with_reducible (exact HB.out))))) hb)
                have n8_ := Aside0.mk (hbox)
                have n9_ := Aside0.mk ((by rw [hg]; exact (below_size (by repeat (((with_reducible (exact HB.out)))))) : w.heap.size ≤ qj))
                have n10_ := Aside0.mk ((by rw [hg]; exact (below_size (by repeat (((with_reducible (exact HB.out)))))) : w.heap.size ≤ qj))
                have n11_ := Aside0.mk ((by rw [hg]; exact Nat.ne_of_lt (blk_lt (g := qh) (o := .cells #[.bool a0_0, .slice A0_1 l0_1.length c0_1, .slice A0_2 l0_2.length c0_2] 25 (0, 0)) (by exact qd.out)) : qh ≠ qj))
                have n12_ := Aside0.mk ((by rw [hg]; exact Nat.ne_of_gt (blk_lt (g := qh) (o := .cells #[.bool a0_0, .slice A0_1 l0_1.length c0_1, .slice A0_2 l0_2.length c0_2] 25 (0, 0)) (by exact qd.out)) : qj ≠ qh))
                have n13_ := Aside0.mk ((by rw [hg]; exact Nat.ne_of_lt (blk_lt (g := qi) (o := .cells #[.bool qk, .slice qm qb.length qn, .slice qp qc.length qo] 25 (0, 0)) (by exact qg.out)) : qi ≠ qj))
                have n14_ := Aside0.mk ((by rw [hg]; exact Nat.ne_of_gt (blk_lt (g := qi) (o := .cells #[.bool qk, .slice qm qb.length qn, .slice qp qc.length qo] 25 (0, 0)) (by exact qg.out)) : qj ≠ qi))
                clear HO_3 qe qf qab qy qd qg HB
                have HO_3 := n0_
                have qe := n1_
                have qf := n2_
                have qab := n3_
                have qy := n4_
                have qd := n5_
                have qg := n6_
                have HB := n7_
                have ql := n8_
                have GW217 := n9_
                have qai := n10_
                have qs := n11_
                have qv := n12_
                have qt := n13_
                have qw := n14_
                clear n0_ n1_ n2_ n3_ n4_ n5_ n6_ n7_ n8_ n9_ n10_ n11_ n12_ n13_ n14_ hb hbox hg
                refine hK.out _ _ ⟨(blk_cell qd.out 0).trans rfl, (blk_cell qd.out 1).trans rfl, (blk_cell qd.out 2).trans rfl, (blk_cell qg.out 0).trans rfl, (blk_cell qg.out 1).trans rfl, (blk_cell qg.out 2).trans rfl⟩ (fun hHeld => ?_)
                clear hK K
                refine norm_ (a' := ?_) ?_ ?_
                rotate_left
                ·show Act.put _ (some 6) _ = _
                 simp only [Act.put, List.setIfInBounds_toArray, List.set_cons_zero, List.set_cons_succ, i64_w, i32_w]
                 rfl
                exact norm_ (by ((simp only [putAll, Act.put, List.setIfInBounds_toArray, List.set_cons_zero, List.set_cons_succ]; done))) (hJ2_6_11 (qaf, qae, qj) _ ⟨hHeld, (by exact qab.out), (by exact qy.out), (by exact qe.out), (by exact qf.out), (by exact Kd.S_mono HO_3.out (fun _ hk => ⟨hk.1.1, ⟨hk.1.2.1, ⟨hk.1.2.2.1, ⟨hk.1.2.2.2.1, ⟨hk.1.2.2.2.2.1, ⟨hk.1.2.2.2.2.2, hk.2⟩⟩⟩⟩⟩⟩)), (by exact qd.out), (by exact qg.out), (by exact ql.out), GW217.out, qai.out, qs.out, qv.out, qt.out, qw.out, (by repeat (((with_reducible (exact HB.out)))))⟩)
             ·skip
              rintro ⟨qaf, qaj⟩ w23 ⟨hS_, h0_, h1_, h2_, h3_, h4_, h5_, h6_⟩
              have n0_ : Aside0 (Kd.R k44 44 w23 w.heap.size (fun k_ => some k_ ≠ (.slice qm qb.length qn : Value).ownBlock) qaj qx) := ⟨h0_⟩
              have n1_ : Aside0 (Kd.R k44 44 w23 w.heap.size (fun k_ => some k_ ≠ (qaj : Value).ownBlock) (.slice qm qb.length qn) qb) := ⟨h1_⟩
              have n2_ : Aside0 (Kd.R k46 46 w23 w.heap.size (fun _ => True) (.slice qp qc.length qo) qc) := ⟨h2_⟩
              have n3_ : Aside0 (Kd.S k25 25 w23 w.heap.size (fun k_ => some k_ ≠ (qaj : Value).ownBlock ∧ some k_ ≠ (.slice qm qb.length qn : Value).ownBlock ∧ some k_ ≠ (.slice qp qc.length qo : Value).ownBlock ∧ k_ ≠ qh ∧ k_ ≠ qi) u3 x3_1) := ⟨h3_⟩
              have n4_ : Aside0 (w23.heap[qh]? = some (.cells #[.bool a0_0, .slice A0_1 l0_1.length c0_1, .slice A0_2 l0_2.length c0_2] 25 (0, 0))) := ⟨h4_⟩
              have n5_ : Aside0 (w23.heap[qi]? = some (.cells #[.bool qk, .slice qm qb.length qn, .slice qp qc.length qo] 25 (0, 0))) := ⟨h5_⟩
              have n6_ : Aside0 (Below w.heap.size w w23) := ⟨h6_⟩
              clear HO_3 qe qf qd qg HB h0_ h1_ h2_ h3_ h4_ h5_ h6_
              have qu := n0_
              have qe := n1_
              have qf := n2_
              have HO_3 := n3_
              have qd := n4_
              have qg := n5_
              have HB := n6_
              clear n0_ n1_ n2_ n3_ n4_ n5_ n6_
              have hHeld : w23.cell? ⟨qh, 0, none⟩ = some (.bool a0_0) ∧ w23.cell? ⟨qh, 1, none⟩ = some (.slice A0_1 l0_1.length c0_1) ∧ w23.cell? ⟨qh, 2, none⟩ = some (.slice A0_2 l0_2.length c0_2) ∧ w23.cell? ⟨qi, 0, none⟩ = some (.bool qk) ∧ w23.cell? ⟨qi, 1, none⟩ = some (.slice qm qb.length qn) ∧ w23.cell? ⟨qi, 2, none⟩ = some (.slice qp qc.length qo) := hS_
              refine norm_ (a' := ?_) ?_ ?_
              rotate_left
              ·simp only [putAll, Act.put, List.setIfInBounds_toArray, List.set_cons_zero, List.set_cons_succ]
               rfl
              refine two_ (i := 6) (j := 11) (Ni := some 31) (Nj := some 6) #[true, true, true, true, true, true, true, true, true, false, false, false, false] #[true, true, true, true, true, true, false, true, true, false, false, true, false] rfl rfl rfl rfl (two_of HT_.out (by kernel_rfl)) (by decide) (by decide) (fun K hK => ?_) (fun K hK => ?_)
              ·skip
               refine Kd.R_lit_step k46 _ 46 ?hg (N := 31) ?hd (xs := ([] : List (S46))) (inner := []) (ok := fun _ => True) (okp := fun _ => True) ?hr ?hp (fun _ hk => hk) trivial (Below.refl _ _) (Nat.le_refl _) (by simp) ?_; (case hd => rfl); (case hg => rfl); (case hr => ((go_simp; done))); (case hp => exact (Reps.none _ _))
               intro qae w24 ho25 hb hg_ hnew_
               clear hg_ hnew_
               ((rw [← qca.out] at ho25))
               have n0_ := Aside0.mk (Kd.S_elder' (by exact HO_3.out) (Kd.R_base ho25) hb)
               have n1_ := Aside0.mk (Kd.R_below (by exact qe.out) hb)
               have n2_ := Aside0.mk (Kd.R_elder' (by exact qf.out) (Kd.R_base ho25) hb)
               have n3_ := Aside0.mk (Kd.R_below (by exact qu.out) hb)
               have n4_ := Aside0.mk (Kd.R_lower (Kd.R_new' ho25 (Kd.R_lt (by exact qf.out))) (below_size (by repeat (((with_reducible (exact HB.out)))))))
               have n5_ := Aside0.mk (blk_below (g := qh) (o := .cells #[.bool a0_0, .slice A0_1 l0_1.length c0_1, .slice A0_2 l0_2.length c0_2] 25 (0, 0)) (by exact qd.out) hb)
               have n6_ := Aside0.mk (blk_below (g := qi) (o := .cells #[.bool qk, .slice qm qb.length qn, .slice qp qc.length qo] 25 (0, 0)) (by exact qg.out) hb)
               have n7_ := Aside0.mk (below_step (by repeat (((with_reducible (exact HB.out))))) hb)
               clear HO_3 qe qf qu qd qg HB
               have HO_3 := n0_
               have qe := n1_
               have qf := n2_
               have qu := n3_
               have qy := n4_
               have qd := n5_
               have qg := n6_
               have HB := n7_
               clear n0_ n1_ n2_ n3_ n4_ n5_ n6_ n7_ hb ho25
               refine hK.out _ _ ⟨(blk_cell qd.out 0).trans rfl, (blk_cell qd.out 1).trans rfl, (blk_cell qd.out 2).trans rfl, (blk_cell qg.out 0).trans rfl, (blk_cell qg.out 1).trans rfl, (blk_cell qg.out 2).trans rfl⟩ (fun hHeld => ?_)
               clear hK K
               refine norm_ (a' := ?_) ?_ ?_
               rotate_left
               ·show Act.put _ (some 31) _ = _
                simp only [Act.put, List.setIfInBounds_toArray, List.set_cons_zero, List.set_cons_succ, i64_w, i32_w]
                rfl
               exact norm_ (by ((simp only [putAll, Act.put, List.setIfInBounds_toArray, List.set_cons_zero, List.set_cons_succ]; done))) (hJ2_5_6 (qaf, qaj, qae) _ ⟨hHeld, (by exact qu.out), (by exact Kd.R_mono qy.out (fun _ hk => hk.2)), (by exact qe.out), (by exact Kd.R_mono qf.out (fun _ hk => hk.2)), (by exact Kd.S_mono HO_3.out (fun _ hk => ⟨hk.1.1, ⟨hk.2, ⟨hk.1.2.1, ⟨hk.1.2.2.1, ⟨hk.1.2.2.2.1, hk.1.2.2.2.2⟩⟩⟩⟩⟩)), (by exact qd.out), (by exact qg.out), (by repeat (((with_reducible (exact HB.out)))))⟩)
              ·skip
               refine box_step ?hg (N := 6) ?hd (cs := #[.bool false, .slice none 0 0, .slice none 0 0]) (t := 25) ?hr ?_; (case hd => rfl); (case hg => rfl); (case hr => ((go_simp; done)))
               intro qj hg w24 hbox hb
               have n0_ := Aside0.mk (Kd.S_below (Kd.S_elderB (by exact HO_3.out) qj (Nat.le_of_eq hg.symm)) hb)
               have n1_ := Aside0.mk (Kd.R_below (by exact qe.out) hb)
               have n2_ := Aside0.mk (Kd.R_below (by exact qf.out) hb)
               have n3_ := Aside0.mk (Kd.R_below (by exact qu.out) hb)
               have n4_ := Aside0.mk (blk_below (g := qh) (o := .cells #[.bool a0_0, .slice A0_1 l0_1.length c0_1, .slice A0_2 l0_2.length c0_2] 25 (0, 0)) (by exact qd.out) hb)
               have n5_ := Aside0.mk (blk_below (g := qi) (o := .cells #[.bool qk, .slice qm qb.length qn, .slice qp qc.length qo] 25 (0, 0)) (by exact qg.out) hb)
               have n6_ := Aside0.mk (below_step (by repeat (((with_reducible (exact HB.out))))) hb)
               have n7_ := Aside0.mk (hbox)
               have n8_ := Aside0.mk ((by rw [hg]; exact (below_size (by repeat (((with_reducible (exact HB.out)))))) : w.heap.size ≤ qj))
               have n9_ := Aside0.mk ((by rw [hg]; exact (below_size (by repeat (((with_reducible (exact HB.out)))))) : w.heap.size ≤ qj))
               have n10_ := Aside0.mk ((by rw [hg]; exact Nat.ne_of_lt (blk_lt (g := qh) (o := .cells #[.bool a0_0, .slice A0_1 l0_1.length c0_1, .slice A0_2 l0_2.length c0_2] 25 (0, 0)) (by exact qd.out)) : qh ≠ qj))
               have n11_ := Aside0.mk ((by rw [hg]; exact Nat.ne_of_gt (blk_lt (g := qh) (o := .cells #[.bool a0_0, .slice A0_1 l0_1.length c0_1, .slice A0_2 l0_2.length c0_2] 25 (0, 0)) (by exact qd.out)) : qj ≠ qh))
               have n12_ := Aside0.mk ((by rw [hg]; exact Nat.ne_of_lt (blk_lt (g := qi) (o := .cells #[.bool qk, .slice qm qb.length qn, .slice qp qc.length qo] 25 (0, 0)) (by exact qg.out)) : qi ≠ qj))
               have n13_ := Aside0.mk ((by rw [hg]; exact Nat.ne_of_gt (blk_lt (g := qi) (o := .cells #[.bool qk, .slice qm qb.length qn, .slice qp qc.length qo] 25 (0, 0)) (by exact qg.out)) : qj ≠ qi))
               clear HO_3 qe qf qu qd qg HB
               have HO_3 := n0_
               have qe := n1_
               have qf := n2_
               have qu := n3_
               have qd := n4_
               have qg := n5_
               have HB := n6_
               have ql := n7_
               have GW217 := n8_
               have qai := n9_
               have qs := n10_
               have qv := n11_
               have qt := n12_
               have qw := n13_
               clear n0_ n1_ n2_ n3_ n4_ n5_ n6_ n7_ n8_ n9_ n10_ n11_ n12_ n13_ hb hbox hg
               refine hK.out _ _ ⟨(blk_cell qd.out 0).trans rfl, (blk_cell qd.out 1).trans rfl, (blk_cell qd.out 2).trans rfl, (blk_cell qg.out 0).trans rfl, (blk_cell qg.out 1).trans rfl, (blk_cell qg.out 2).trans rfl⟩ (fun hHeld => ?_)
               clear hK K
               refine norm_ (a' := ?_) ?_ ?_
               rotate_left
               ·show Act.put _ (some 6) _ = _
                simp only [Act.put, List.setIfInBounds_toArray, List.set_cons_zero, List.set_cons_succ, i64_w, i32_w]
                rfl
               exact norm_ (by ((simp only [putAll, Act.put, List.setIfInBounds_toArray, List.set_cons_zero, List.set_cons_succ]; done))) (hJ2_5_11 (qaf, qaj, qj) _ ⟨hHeld, (by exact qu.out), (by exact qe.out), (by exact qf.out), (by exact Kd.S_mono HO_3.out (fun _ hk => ⟨hk.1.1, ⟨hk.1.2.1, ⟨hk.1.2.2.1, ⟨hk.1.2.2.2.1, ⟨hk.1.2.2.2.2, hk.2⟩⟩⟩⟩⟩)), (by exact qd.out), (by exact qg.out), (by exact ql.out), GW217.out, qai.out, qs.out, qv.out, qt.out, qw.out, (by repeat (((with_reducible (exact HB.out)))))⟩)
            ·skip
             rintro ⟨qaf, qae, qj⟩ w25 ⟨hS_, h0_, h1_, h2_, h3_, h4_, h5_, h6_, h7_, h8_, h9_, h10_, h11_, h12_, h13_, h14_⟩
             have n0_ : Aside0 (Kd.R k44 44 w25 w.heap.size (fun k_ => some k_ ≠ (.slice qm qb.length qn : Value).ownBlock) qaf qbi) := ⟨h0_⟩
             have n1_ : Aside0 (Kd.R k46 46 w25 w.heap.size (fun k_ => some k_ ≠ (.slice qp qc.length qo : Value).ownBlock) qae qbd) := ⟨h1_⟩
             have n2_ : Aside0 (Kd.R k44 44 w25 w.heap.size (fun k_ => some k_ ≠ (qaf : Value).ownBlock) (.slice qm qb.length qn) qb) := ⟨h2_⟩
             have n3_ : Aside0 (Kd.R k46 46 w25 w.heap.size (fun k_ => some k_ ≠ (qae : Value).ownBlock) (.slice qp qc.length qo) qc) := ⟨h3_⟩
             have n4_ : Aside0 (Kd.S k25 25 w25 w.heap.size (fun k_ => some k_ ≠ (qaf : Value).ownBlock ∧ some k_ ≠ (qae : Value).ownBlock ∧ some k_ ≠ (.slice qm qb.length qn : Value).ownBlock ∧ some k_ ≠ (.slice qp qc.length qo : Value).ownBlock ∧ k_ ≠ qh ∧ k_ ≠ qi ∧ k_ ≠ qj) u3 x3_1) := ⟨h4_⟩
             have n5_ : Aside0 (w25.heap[qh]? = some (.cells #[.bool a0_0, .slice A0_1 l0_1.length c0_1, .slice A0_2 l0_2.length c0_2] 25 (0, 0))) := ⟨h5_⟩
             have n6_ : Aside0 (w25.heap[qi]? = some (.cells #[.bool qk, .slice qm qb.length qn, .slice qp qc.length qo] 25 (0, 0))) := ⟨h6_⟩
             have n7_ : Aside0 (w25.heap[qj]? = some (.cells #[.bool false, .slice none 0 0, .slice none 0 0] 25 (0, 0))) := ⟨h7_⟩
             have n8_ : Aside0 (w.heap.size ≤ qj) := ⟨h8_⟩
             have n9_ : Aside0 (w.heap.size ≤ qj) := ⟨h9_⟩
             have n10_ : Aside0 (qh ≠ qj) := ⟨h10_⟩
             have n11_ : Aside0 (qj ≠ qh) := ⟨h11_⟩
             have n12_ : Aside0 (qi ≠ qj) := ⟨h12_⟩
             have n13_ : Aside0 (qj ≠ qi) := ⟨h13_⟩
             have n14_ : Aside0 (Below w.heap.size w w25) := ⟨h14_⟩
             clear HO_3 qe qf qd qg HB h0_ h1_ h2_ h3_ h4_ h5_ h6_ h7_ h8_ h9_ h10_ h11_ h12_ h13_ h14_
             have qab := n0_
             have qy := n1_
             have qe := n2_
             have qf := n3_
             have HO_3 := n4_
             have qd := n5_
             have qg := n6_
             have ql := n7_
             have GW217 := n8_
             have qai := n9_
             have qs := n10_
             have qv := n11_
             have qt := n12_
             have qw := n13_
             have HB := n14_
             clear n0_ n1_ n2_ n3_ n4_ n5_ n6_ n7_ n8_ n9_ n10_ n11_ n12_ n13_ n14_
             have hHeld : w25.cell? ⟨qh, 0, none⟩ = some (.bool a0_0) ∧ w25.cell? ⟨qh, 1, none⟩ = some (.slice A0_1 l0_1.length c0_1) ∧ w25.cell? ⟨qh, 2, none⟩ = some (.slice A0_2 l0_2.length c0_2) ∧ w25.cell? ⟨qi, 0, none⟩ = some (.bool qk) ∧ w25.cell? ⟨qi, 1, none⟩ = some (.slice qm qb.length qn) ∧ w25.cell? ⟨qi, 2, none⟩ = some (.slice qp qc.length qo) := hS_
             refine norm_ (a' := ?_) ?_ ?_
             rotate_left
             ·simp only [putAll, Act.put, List.setIfInBounds_toArray, List.set_cons_zero, List.set_cons_succ]
              rfl
             refine one_ (i := 5) (N := some 30) #[true, true, true, true, true, true, true, true, true, false, false, true, false] rfl rfl (one_of HT_.out (by kernel_rfl)) (by decide) (fun K hK => ?_)
             refine Kd.R_append_rows_step k44 (w0 := w) w.heap.size (by rfl) (.tmp 27) (.tmp 29) 22 44 (.agg #[(.string ⟨#[]⟩), (.string ⟨#[]⟩)]) 32 rfl Try.underlying22 info44 rfl (by decide) (by omega) qaf qbi qb _ _ _ (fun k_ => some k_ ≠ (.slice qm qb.length qn : Value).ownBlock) (fun _ => False) rfl rfl ?aO ?aR (fun _ _ h => h) (fun _ h => h.elim) ?aF ?aB ?aS ?aL ?_
             (case aR => repeat ((exact (Kd.R_reads' qe.out).2.2)))
             (case aB => exact (by repeat (((with_reducible (exact HB.out))))))
             (case aF => exact (fun k_ hk => Kd.fresh' (Kd.R_lt (by exact qe.out)) k_ hk))
             (case aO => exact (by exact qab.out))
             (case aS => exact (below_size (by repeat (((with_reducible (exact HB.out)))))))
             (case aL => have := qcj.out; omega)
             intro qaj w26 ho hb hg hat
             rw [← qck.out] at ho
             have n0_ := Aside0.mk (Kd.S_after (ok := (fun k_ => some k_ ≠ (.slice qm qb.length qn : Value).ownBlock ∧ some k_ ≠ (.slice qp qc.length qo : Value).ownBlock ∧ some k_ ≠ (qae : Value).ownBlock ∧ k_ ≠ qh ∧ k_ ≠ qi ∧ k_ ≠ qj)) (by exact Kd.S_mono HO_3.out (fun _ hk => ⟨⟨hk.2.2.1, ⟨hk.2.2.2.1, ⟨hk.2.1, ⟨hk.2.2.2.2.1, ⟨hk.2.2.2.2.2.1, hk.2.2.2.2.2.2⟩⟩⟩⟩⟩, hk.1⟩)) hg hat)
             have n1_ := Aside0.mk (Kd.R_after (ok := (fun _ => True)) (by exact Kd.R_mono qe.out (fun _ hk => ⟨trivial, hk⟩)) hg hat)
             have n2_ := Aside0.mk (Kd.R_over' (by exact qf.out) (Kd.R_typed (by exact qab.out)) (by decide) hg)
             have n3_ := Aside0.mk (blk_grown (g := qh) (o := .cells #[.bool a0_0, .slice A0_1 l0_1.length c0_1, .slice A0_2 l0_2.length c0_2] 25 (0, 0)) (by exact qd.out) hg (Kd.R_ne qab.out qd.out (by decide)))
             have n4_ := Aside0.mk (blk_grown (g := qi) (o := .cells #[.bool qk, .slice qm qb.length qn, .slice qp qc.length qo] 25 (0, 0)) (by exact qg.out) hg (Kd.R_ne qab.out qg.out (by decide)))
             have n5_ := Aside0.mk (Kd.R_over' (by exact qy.out) (Kd.R_typed (by exact qab.out)) (by decide) hg)
             have n6_ := Aside0.mk (blk_grown (g := qj) (o := .cells #[.bool false, .slice none 0 0, .slice none 0 0] 25 (0, 0)) (by exact ql.out) hg (Kd.R_ne qab.out ql.out (by decide)))
             have n7_ := Aside0.mk (hb)
             have n8_ := Aside0.mk (ho)
             clear HO_3 qe qf qd qg qy ql HB qab
             have HO_3 := n0_
             have qe := n1_
             have qf := n2_
             have qd := n3_
             have qg := n4_
             have qy := n5_
             have ql := n6_
             have HB := n7_
             have qu := n8_
             clear n0_ n1_ n2_ n3_ n4_ n5_ n6_ n7_ n8_ ho hb hg hat
             refine hK.out _ _ ⟨(blk_cell qd.out 0).trans rfl, (blk_cell qd.out 1).trans rfl, (blk_cell qd.out 2).trans rfl, (blk_cell qg.out 0).trans rfl, (blk_cell qg.out 1).trans rfl, (blk_cell qg.out 2).trans rfl⟩ (fun hHeld => ?_)
             clear hK K
             refine norm_ (a' := ?_) ?_ ?_
             rotate_left
             ·show Act.put _ (some 30) _ = _
              simp only [Act.put, List.setIfInBounds_toArray, List.set_cons_zero, List.set_cons_succ, i64_w, i32_w]
              rfl
             exact norm_ (by ((simp only [putAll, Act.put, List.setIfInBounds_toArray, List.set_cons_zero, List.set_cons_succ]; done))) (hJ2_5_6_11 (qaf, qaj, qae, qj) _ ⟨hHeld, (by exact qu.out), (by exact qy.out), (by exact Kd.R_mono qe.out (fun _ hk => hk.2)), (by exact qf.out), (by exact Kd.S_mono HO_3.out (fun _ hk => ⟨hk.2, ⟨hk.1.2.2.1, ⟨hk.1.1, ⟨hk.1.2.1, ⟨hk.1.2.2.2.1, ⟨hk.1.2.2.2.2.1, hk.1.2.2.2.2.2⟩⟩⟩⟩⟩⟩)), (by exact qd.out), (by exact qg.out), (by exact ql.out), GW217.out, qai.out, qs.out, qv.out, qt.out, qw.out, (by repeat (((with_reducible (exact HB.out)))))⟩)
           ·skip
            rintro ⟨qaf, qaj, qj⟩ w24 ⟨hS_, h0_, h1_, h2_, h3_, h4_, h5_, h6_, h7_, h8_, h9_, h10_, h11_, h12_, h13_⟩
            have n0_ : Aside0 (Kd.R k44 44 w24 w.heap.size (fun k_ => some k_ ≠ (.slice qm qb.length qn : Value).ownBlock) qaj qx) := ⟨h0_⟩
            have n1_ : Aside0 (Kd.R k44 44 w24 w.heap.size (fun k_ => some k_ ≠ (qaj : Value).ownBlock) (.slice qm qb.length qn) qb) := ⟨h1_⟩
            have n2_ : Aside0 (Kd.R k46 46 w24 w.heap.size (fun _ => True) (.slice qp qc.length qo) qc) := ⟨h2_⟩
            have n3_ : Aside0 (Kd.S k25 25 w24 w.heap.size (fun k_ => some k_ ≠ (qaj : Value).ownBlock ∧ some k_ ≠ (.slice qm qb.length qn : Value).ownBlock ∧ some k_ ≠ (.slice qp qc.length qo : Value).ownBlock ∧ k_ ≠ qh ∧ k_ ≠ qi ∧ k_ ≠ qj) u3 x3_1) := ⟨h3_⟩
            have n4_ : Aside0 (w24.heap[qh]? = some (.cells #[.bool a0_0, .slice A0_1 l0_1.length c0_1, .slice A0_2 l0_2.length c0_2] 25 (0, 0))) := ⟨h4_⟩
            have n5_ : Aside0 (w24.heap[qi]? = some (.cells #[.bool qk, .slice qm qb.length qn, .slice qp qc.length qo] 25 (0, 0))) := ⟨h5_⟩
            have n6_ : Aside0 (w24.heap[qj]? = some (.cells #[.bool false, .slice none 0 0, .slice none 0 0] 25 (0, 0))) := ⟨h6_⟩
            have n7_ : Aside0 (w.heap.size ≤ qj) := ⟨h7_⟩
            have n8_ : Aside0 (w.heap.size ≤ qj) := ⟨h8_⟩
            have n9_ : Aside0 (qh ≠ qj) := ⟨h9_⟩
            have n10_ : Aside0 (qj ≠ qh) := ⟨h10_⟩
            have n11_ : Aside0 (qi ≠ qj) := ⟨h11_⟩
            have n12_ : Aside0 (qj ≠ qi) := ⟨h12_⟩
            have n13_ : Aside0 (Below w.heap.size w w24) := ⟨h13_⟩
            clear HO_3 qe qf qd qg HB h0_ h1_ h2_ h3_ h4_ h5_ h6_ h7_ h8_ h9_ h10_ h11_ h12_ h13_
            have qu := n0_
            have qe := n1_
            have qf := n2_
            have HO_3 := n3_
            have qd := n4_
            have qg := n5_
            have ql := n6_
            have GW217 := n7_
            have qai := n8_
            have qs := n9_
            have qv := n10_
            have qt := n11_
            have qw := n12_
            have HB := n13_
            clear n0_ n1_ n2_ n3_ n4_ n5_ n6_ n7_ n8_ n9_ n10_ n11_ n12_ n13_
            have hHeld : w24.cell? ⟨qh, 0, none⟩ = some (.bool a0_0) ∧ w24.cell? ⟨qh, 1, none⟩ = some (.slice A0_1 l0_1.length c0_1) ∧ w24.cell? ⟨qh, 2, none⟩ = some (.slice A0_2 l0_2.length c0_2) ∧ w24.cell? ⟨qi, 0, none⟩ = some (.bool qk) ∧ w24.cell? ⟨qi, 1, none⟩ = some (.slice qm qb.length qn) ∧ w24.cell? ⟨qi, 2, none⟩ = some (.slice qp qc.length qo) := hS_
            refine norm_ (a' := ?_) ?_ ?_
            rotate_left
            ·simp only [putAll, Act.put, List.setIfInBounds_toArray, List.set_cons_zero, List.set_cons_succ]
             rfl
            refine one_ (i := 6) (N := some 31) #[true, true, true, true, true, true, true, true, true, false, false, true, false] rfl rfl (one_of HT_.out (by kernel_rfl)) (by decide) (fun K hK => ?_)
            refine Kd.R_lit_step k46 _ 46 ?hg (N := 31) ?hd (xs := ([] : List (S46))) (inner := []) (ok := fun _ => True) (okp := fun _ => True) ?hr ?hp (fun _ hk => hk) trivial (Below.refl _ _) (Nat.le_refl _) (by simp) ?_; (case hd => rfl); (case hg => rfl); (case hr => ((go_simp; done))); (case hp => exact (Reps.none _ _))
            intro qae w25 ho26 hb hg_ hnew_
            clear hg_ hnew_
            ((rw [← qca.out] at ho26))
            have n0_ := Aside0.mk (Kd.S_elder' (by exact HO_3.out) (Kd.R_base ho26) hb)
            have n1_ := Aside0.mk (Kd.R_below (by exact qe.out) hb)
            have n2_ := Aside0.mk (Kd.R_elder' (by exact qf.out) (Kd.R_base ho26) hb)
            have n3_ := Aside0.mk (Kd.R_below (by exact qu.out) hb)
            have n4_ := Aside0.mk (Kd.R_lower (Kd.R_new' ho26 (Kd.R_lt (by exact qf.out))) (below_size (by repeat (((with_reducible (exact HB.out)))))))
            have n5_ := Aside0.mk (blk_below (g := qh) (o := .cells #[.bool a0_0, .slice A0_1 l0_1.length c0_1, .slice A0_2 l0_2.length c0_2] 25 (0, 0)) (by exact qd.out) hb)
            have n6_ := Aside0.mk (blk_below (g := qi) (o := .cells #[.bool qk, .slice qm qb.length qn, .slice qp qc.length qo] 25 (0, 0)) (by exact qg.out) hb)
            have n7_ := Aside0.mk (blk_below (g := qj) (o := .cells #[.bool false, .slice none 0 0, .slice none 0 0] 25 (0, 0)) (by exact ql.out) hb)
            have n8_ := Aside0.mk (below_step (by repeat (((with_reducible (exact HB.out))))) hb)
            clear HO_3 qe qf qu qd qg ql HB
            have HO_3 := n0_
            have qe := n1_
            have qf := n2_
            have qu := n3_
            have qy := n4_
            have qd := n5_
            have qg := n6_
            have ql := n7_
            have HB := n8_
            clear n0_ n1_ n2_ n3_ n4_ n5_ n6_ n7_ n8_ hb ho26
            refine hK.out _ _ ⟨(blk_cell qd.out 0).trans rfl, (blk_cell qd.out 1).trans rfl, (blk_cell qd.out 2).trans rfl, (blk_cell qg.out 0).trans rfl, (blk_cell qg.out 1).trans rfl, (blk_cell qg.out 2).trans rfl⟩ (fun hHeld => ?_)
            clear hK K
            refine norm_ (a' := ?_) ?_ ?_
            rotate_left
            ·show Act.put _ (some 31) _ = _
             simp only [Act.put, List.setIfInBounds_toArray, List.set_cons_zero, List.set_cons_succ, i64_w, i32_w]
             rfl
            exact norm_ (by ((simp only [putAll, Act.put, List.setIfInBounds_toArray, List.set_cons_zero, List.set_cons_succ]; done))) (hJ2_5_6_11 (qaf, qaj, qae, qj) _ ⟨hHeld, (by exact qu.out), (by exact Kd.R_mono qy.out (fun _ hk => hk.2)), (by exact qe.out), (by exact Kd.R_mono qf.out (fun _ hk => hk.2)), (by exact Kd.S_mono HO_3.out (fun _ hk => ⟨hk.1.1, ⟨hk.2, ⟨hk.1.2.1, ⟨hk.1.2.2.1, ⟨hk.1.2.2.2.1, ⟨hk.1.2.2.2.2.1, hk.1.2.2.2.2.2⟩⟩⟩⟩⟩⟩)), (by exact qd.out), (by exact qg.out), (by exact ql.out), GW217.out, qai.out, qs.out, qv.out, qt.out, qw.out, (by repeat (((with_reducible (exact HB.out)))))⟩)
          ·skip
           rintro ⟨qaf, qaj, qae⟩ w25 ⟨hS_, h0_, h1_, h2_, h3_, h4_, h5_, h6_, h7_⟩
           have n0_ : Aside0 (Kd.R k44 44 w25 w.heap.size (fun k_ => some k_ ≠ (.slice qm qb.length qn : Value).ownBlock) qaj qx) := ⟨h0_⟩
           have n1_ : Aside0 (Kd.R k46 46 w25 w.heap.size (fun k_ => some k_ ≠ (.slice qp qc.length qo : Value).ownBlock) qae qbd) := ⟨h1_⟩
           have n2_ : Aside0 (Kd.R k44 44 w25 w.heap.size (fun k_ => some k_ ≠ (qaj : Value).ownBlock) (.slice qm qb.length qn) qb) := ⟨h2_⟩
           have n3_ : Aside0 (Kd.R k46 46 w25 w.heap.size (fun k_ => some k_ ≠ (qae : Value).ownBlock) (.slice qp qc.length qo) qc) := ⟨h3_⟩
           have n4_ : Aside0 (Kd.S k25 25 w25 w.heap.size (fun k_ => some k_ ≠ (qaj : Value).ownBlock ∧ some k_ ≠ (qae : Value).ownBlock ∧ some k_ ≠ (.slice qm qb.length qn : Value).ownBlock ∧ some k_ ≠ (.slice qp qc.length qo : Value).ownBlock ∧ k_ ≠ qh ∧ k_ ≠ qi) u3 x3_1) := ⟨h4_⟩
           have n5_ : Aside0 (w25.heap[qh]? = some (.cells #[.bool a0_0, .slice A0_1 l0_1.length c0_1, .slice A0_2 l0_2.length c0_2] 25 (0, 0))) := ⟨h5_⟩
           have n6_ : Aside0 (w25.heap[qi]? = some (.cells #[.bool qk, .slice qm qb.length qn, .slice qp qc.length qo] 25 (0, 0))) := ⟨h6_⟩
           have n7_ : Aside0 (Below w.heap.size w w25) := ⟨h7_⟩
           clear HO_3 qe qf qd qg HB h0_ h1_ h2_ h3_ h4_ h5_ h6_ h7_
           have qu := n0_
           have qy := n1_
           have qe := n2_
           have qf := n3_
           have HO_3 := n4_
           have qd := n5_
           have qg := n6_
           have HB := n7_
           clear n0_ n1_ n2_ n3_ n4_ n5_ n6_ n7_
           have hHeld : w25.cell? ⟨qh, 0, none⟩ = some (.bool a0_0) ∧ w25.cell? ⟨qh, 1, none⟩ = some (.slice A0_1 l0_1.length c0_1) ∧ w25.cell? ⟨qh, 2, none⟩ = some (.slice A0_2 l0_2.length c0_2) ∧ w25.cell? ⟨qi, 0, none⟩ = some (.bool qk) ∧ w25.cell? ⟨qi, 1, none⟩ = some (.slice qm qb.length qn) ∧ w25.cell? ⟨qi, 2, none⟩ = some (.slice qp qc.length qo) := hS_
           refine norm_ (a' := ?_) ?_ ?_
           rotate_left
           ·simp only [putAll, Act.put, List.setIfInBounds_toArray, List.set_cons_zero, List.set_cons_succ]
            rfl
           refine two_ (i := 9) (j := 11) (Ni := some 34) (Nj := some 6) #[true, true, true, true, true, true, true, true, true, true, false, false, false] #[true, true, true, true, true, true, true, true, true, false, false, true, false] rfl rfl rfl rfl (two_of HT_.out (by kernel_rfl)) (by decide) (by decide) (fun K hK => ?_) (fun K hK => ?_)
           ·skip
            refine Kd.R_append_rows_step k46 (w0 := w) w.heap.size (by rfl) (.tmp 31) (.tmp 33) 23 46 (.agg #[(.string ⟨#[]⟩), (.int .i64 0)]) 24 rfl Try.underlying23 info46 rfl (by decide) (by omega) qae qbd qc _ _ _ (fun k_ => some k_ ≠ (.slice qp qc.length qo : Value).ownBlock) (fun _ => False) rfl rfl ?aO ?aR (fun _ _ h => h) (fun _ h => h.elim) ?aF ?aB ?aS ?aL ?_
            (case aR => repeat ((exact (Kd.R_reads' qf.out).2.2)))
            (case aB => exact (by repeat (((with_reducible (exact HB.out))))))
            (case aF => exact (fun k_ hk => Kd.fresh' (Kd.R_lt (by exact qf.out)) k_ hk))
            (case aO => exact (by exact qy.out))
            (case aS => exact (below_size (by repeat (((with_reducible (exact HB.out)))))))
            (case aL => have := qdq.out; omega)
            intro qbq w26 ho hb hg hat
            rw [← qdn.out] at ho
            have n0_ := Aside0.mk (Kd.S_after (ok := (fun k_ => some k_ ≠ (.slice qm qb.length qn : Value).ownBlock ∧ some k_ ≠ (.slice qp qc.length qo : Value).ownBlock ∧ some k_ ≠ (qaj : Value).ownBlock ∧ k_ ≠ qh ∧ k_ ≠ qi)) (by exact Kd.S_mono HO_3.out (fun _ hk => ⟨⟨hk.2.2.1, ⟨hk.2.2.2.1, ⟨hk.1, ⟨hk.2.2.2.2.1, hk.2.2.2.2.2⟩⟩⟩⟩, hk.2.1⟩)) hg hat)
            have n1_ := Aside0.mk (Kd.R_over' (by exact qe.out) (Kd.R_typed (by exact qy.out)) (by decide) hg)
            have n2_ := Aside0.mk (Kd.R_after (ok := (fun _ => True)) (by exact Kd.R_mono qf.out (fun _ hk => ⟨trivial, hk⟩)) hg hat)
            have n3_ := Aside0.mk (blk_grown (g := qh) (o := .cells #[.bool a0_0, .slice A0_1 l0_1.length c0_1, .slice A0_2 l0_2.length c0_2] 25 (0, 0)) (by exact qd.out) hg (Kd.R_ne qy.out qd.out (by decide)))
            have n4_ := Aside0.mk (blk_grown (g := qi) (o := .cells #[.bool qk, .slice qm qb.length qn, .slice qp qc.length qo] 25 (0, 0)) (by exact qg.out) hg (Kd.R_ne qy.out qg.out (by decide)))
            have n5_ := Aside0.mk (Kd.R_over' (by exact qu.out) (Kd.R_typed (by exact qy.out)) (by decide) hg)
            have n6_ := Aside0.mk (hb)
            have n7_ := Aside0.mk (ho)
            clear HO_3 qe qf qd qg qu HB qy
            have HO_3 := n0_
            have qe := n1_
            have qf := n2_
            have qd := n3_
            have qg := n4_
            have qu := n5_
            have HB := n6_
            have qz := n7_
            clear n0_ n1_ n2_ n3_ n4_ n5_ n6_ n7_ ho hb hg hat
            obtain ⟨qen, qex, qem⟩ := Kd.R_slice qz.out
            ((subst qem))
            obtain ⟨qdi, qdf, qdl⟩ := Kd.R_slice qu.out
            ((subst qdl))
            refine hK.out _ _ ⟨(blk_cell qd.out 0).trans rfl, (blk_cell qd.out 1).trans rfl, (blk_cell qd.out 2).trans rfl, (blk_cell qg.out 0).trans rfl, (blk_cell qg.out 1).trans rfl, (blk_cell qg.out 2).trans rfl⟩ (fun hHeld => ?_)
            clear hK K
            refine norm_ (a' := ?_) ?_ ?_
            rotate_left
            ·show Act.put _ (some 34) _ = _
             simp only [Act.put, List.setIfInBounds_toArray, List.set_cons_zero, List.set_cons_succ, i64_w, i32_w]
             rfl
            refine pure_ (i := 10) (N := some 35) (v := ?_) (a' := ?_) #[true, true, true, true, true, true, true, true, true, true, true, false, false] rfl rfl (any_of HT_.out (by kernel_rfl)) (fun _ _ _ h => h) (Or.inl ⟨by rfl, ?_⟩) ?_ ?_
            rotate_left
            ·intro w'
             go_simp
             with_reducible rfl
            rotate_left
            ·simp only [Act.put, List.setIfInBounds_toArray, List.set_cons_zero, List.set_cons_succ, i64_w, i32_w]
             rfl
            exact norm_ (by ((simp only [putAll, Act.put, List.setIfInBounds_toArray, List.set_cons_zero, List.set_cons_succ]; done))) (hJ2_5_6_9 (qaf, .slice qdi qx.length qdf, qae, .slice qen qaa.length qex) _ ⟨hHeld, (by exact qu.out), (by exact qz.out), (by exact qe.out), (by exact Kd.R_mono qf.out (fun _ hk => hk.2)), (by exact Kd.S_mono HO_3.out (fun _ hk => ⟨hk.1.2.2.1, ⟨hk.2, ⟨hk.1.1, ⟨hk.1.2.1, ⟨hk.1.2.2.2.1, hk.1.2.2.2.2⟩⟩⟩⟩⟩)), (by exact qd.out), (by exact qg.out), (by repeat (((with_reducible (exact HB.out)))))⟩)
           ·skip
            refine box_step ?hg (N := 6) ?hd (cs := #[.bool false, .slice none 0 0, .slice none 0 0]) (t := 25) ?hr ?_; (case hd => rfl); (case hg => rfl); (case hr => ((go_simp; done)))
            intro qj hg w26 hbox hb
            have n0_ := Aside0.mk (Kd.S_below (Kd.S_elderB (by exact HO_3.out) qj (Nat.le_of_eq hg.symm)) hb)
            have n1_ := Aside0.mk (Kd.R_below (by exact qe.out) hb)
            have n2_ := Aside0.mk (Kd.R_below (by exact qf.out) hb)
            have n3_ := Aside0.mk (Kd.R_below (by exact qu.out) hb)
            have n4_ := Aside0.mk (Kd.R_below (by exact qy.out) hb)
            have n5_ := Aside0.mk (blk_below (g := qh) (o := .cells #[.bool a0_0, .slice A0_1 l0_1.length c0_1, .slice A0_2 l0_2.length c0_2] 25 (0, 0)) (by exact qd.out) hb)
            have n6_ := Aside0.mk (blk_below (g := qi) (o := .cells #[.bool qk, .slice qm qb.length qn, .slice qp qc.length qo] 25 (0, 0)) (by exact qg.out) hb)
            have n7_ := Aside0.mk (below_step (by repeat (((with_reducible (exact HB.out))))) hb)
            have n8_ := Aside0.mk (hbox)
            have n9_ := Aside0.mk ((by rw [hg]; exact (below_size (by repeat (((with_reducible (exact HB.out)))))) : w.heap.size ≤ qj))
            have n10_ := Aside0.mk ((by rw [hg]; exact (below_size (by repeat (((with_reducible (exact HB.out)))))) : w.heap.size ≤ qj))
            have n11_ := Aside0.mk ((by rw [hg]; exact Nat.ne_of_lt (blk_lt (g := qh) (o := .cells #[.bool a0_0, .slice A0_1 l0_1.length c0_1, .slice A0_2 l0_2.length c0_2] 25 (0, 0)) (by exact qd.out)) : qh ≠ qj))
            have n12_ := Aside0.mk ((by rw [hg]; exact Nat.ne_of_gt (blk_lt (g := qh) (o := .cells #[.bool a0_0, .slice A0_1 l0_1.length c0_1, .slice A0_2 l0_2.length c0_2] 25 (0, 0)) (by exact qd.out)) : qj ≠ qh))
            have n13_ := Aside0.mk ((by rw [hg]; exact Nat.ne_of_lt (blk_lt (g := qi) (o := .cells #[.bool qk, .slice qm qb.length qn, .slice qp qc.length qo] 25 (0, 0)) (by exact qg.out)) : qi ≠ qj))
            have n14_ := Aside0.mk ((by rw [hg]; exact Nat.ne_of_gt (blk_lt (g := qi) (o := .cells #[.bool qk, .slice qm qb.length qn, .slice qp qc.length qo] 25 (0, 0)) (by exact qg.out)) : qj ≠ qi))
            clear HO_3 qe qf qu qy qd qg HB
            have HO_3 := n0_
            have qe := n1_
            have qf := n2_
            have qu := n3_
            have qy := n4_
            have qd := n5_
            have qg := n6_
            have HB := n7_
            have ql := n8_
            have GW217 := n9_
            have qai := n10_
            have qs := n11_
            have qv := n12_
            have qt := n13_
            have qw := n14_
            clear n0_ n1_ n2_ n3_ n4_ n5_ n6_ n7_ n8_ n9_ n10_ n11_ n12_ n13_ n14_ hb hbox hg
            refine hK.out _ _ ⟨(blk_cell qd.out 0).trans rfl, (blk_cell qd.out 1).trans rfl, (blk_cell qd.out 2).trans rfl, (blk_cell qg.out 0).trans rfl, (blk_cell qg.out 1).trans rfl, (blk_cell qg.out 2).trans rfl⟩ (fun hHeld => ?_)
            clear hK K
            refine norm_ (a' := ?_) ?_ ?_
            rotate_left
            ·show Act.put _ (some 6) _ = _
             simp only [Act.put, List.setIfInBounds_toArray, List.set_cons_zero, List.set_cons_succ, i64_w, i32_w]
             rfl
            exact norm_ (by ((simp only [putAll, Act.put, List.setIfInBounds_toArray, List.set_cons_zero, List.set_cons_succ]; done))) (hJ2_5_6_11 (qaf, qaj, qae, qj) _ ⟨hHeld, (by exact qu.out), (by exact qy.out), (by exact qe.out), (by exact qf.out), (by exact Kd.S_mono HO_3.out (fun _ hk => ⟨hk.1.1, ⟨hk.1.2.1, ⟨hk.1.2.2.1, ⟨hk.1.2.2.2.1, ⟨hk.1.2.2.2.2.1, ⟨hk.1.2.2.2.2.2, hk.2⟩⟩⟩⟩⟩⟩)), (by exact qd.out), (by exact qg.out), (by exact ql.out), GW217.out, qai.out, qs.out, qv.out, qt.out, qw.out, (by repeat (((with_reducible (exact HB.out)))))⟩)
         ·skip
          rintro ⟨qaf, qaj, qae, qj⟩ w26 ⟨hS_, h0_, h1_, h2_, h3_, h4_, h5_, h6_, h7_, h8_, h9_, h10_, h11_, h12_, h13_, h14_⟩
          have n0_ : Aside0 (Kd.R k44 44 w26 w.heap.size (fun k_ => some k_ ≠ (.slice qm qb.length qn : Value).ownBlock) qaj qx) := ⟨h0_⟩
          have n1_ : Aside0 (Kd.R k46 46 w26 w.heap.size (fun k_ => some k_ ≠ (.slice qp qc.length qo : Value).ownBlock) qae qbd) := ⟨h1_⟩
          have n2_ : Aside0 (Kd.R k44 44 w26 w.heap.size (fun k_ => some k_ ≠ (qaj : Value).ownBlock) (.slice qm qb.length qn) qb) := ⟨h2_⟩
          have n3_ : Aside0 (Kd.R k46 46 w26 w.heap.size (fun k_ => some k_ ≠ (qae : Value).ownBlock) (.slice qp qc.length qo) qc) := ⟨h3_⟩
          have n4_ : Aside0 (Kd.S k25 25 w26 w.heap.size (fun k_ => some k_ ≠ (qaj : Value).ownBlock ∧ some k_ ≠ (qae : Value).ownBlock ∧ some k_ ≠ (.slice qm qb.length qn : Value).ownBlock ∧ some k_ ≠ (.slice qp qc.length qo : Value).ownBlock ∧ k_ ≠ qh ∧ k_ ≠ qi ∧ k_ ≠ qj) u3 x3_1) := ⟨h4_⟩
          have n5_ : Aside0 (w26.heap[qh]? = some (.cells #[.bool a0_0, .slice A0_1 l0_1.length c0_1, .slice A0_2 l0_2.length c0_2] 25 (0, 0))) := ⟨h5_⟩
          have n6_ : Aside0 (w26.heap[qi]? = some (.cells #[.bool qk, .slice qm qb.length qn, .slice qp qc.length qo] 25 (0, 0))) := ⟨h6_⟩
          have n7_ : Aside0 (w26.heap[qj]? = some (.cells #[.bool false, .slice none 0 0, .slice none 0 0] 25 (0, 0))) := ⟨h7_⟩
          have n8_ : Aside0 (w.heap.size ≤ qj) := ⟨h8_⟩
          have n9_ : Aside0 (w.heap.size ≤ qj) := ⟨h9_⟩
          have n10_ : Aside0 (qh ≠ qj) := ⟨h10_⟩
          have n11_ : Aside0 (qj ≠ qh) := ⟨h11_⟩
          have n12_ : Aside0 (qi ≠ qj) := ⟨h12_⟩
          have n13_ : Aside0 (qj ≠ qi) := ⟨h13_⟩
          have n14_ : Aside0 (Below w.heap.size w w26) := ⟨h14_⟩
          clear HO_3 qe qf qd qg HB h0_ h1_ h2_ h3_ h4_ h5_ h6_ h7_ h8_ h9_ h10_ h11_ h12_ h13_ h14_
          have qu := n0_
          have qy := n1_
          have qe := n2_
          have qf := n3_
          have HO_3 := n4_
          have qd := n5_
          have qg := n6_
          have ql := n7_
          have GW217 := n8_
          have qai := n9_
          have qs := n10_
          have qv := n11_
          have qt := n12_
          have qw := n13_
          have HB := n14_
          clear n0_ n1_ n2_ n3_ n4_ n5_ n6_ n7_ n8_ n9_ n10_ n11_ n12_ n13_ n14_
          have hHeld : w26.cell? ⟨qh, 0, none⟩ = some (.bool a0_0) ∧ w26.cell? ⟨qh, 1, none⟩ = some (.slice A0_1 l0_1.length c0_1) ∧ w26.cell? ⟨qh, 2, none⟩ = some (.slice A0_2 l0_2.length c0_2) ∧ w26.cell? ⟨qi, 0, none⟩ = some (.bool qk) ∧ w26.cell? ⟨qi, 1, none⟩ = some (.slice qm qb.length qn) ∧ w26.cell? ⟨qi, 2, none⟩ = some (.slice qp qc.length qo) := hS_
          refine norm_ (a' := ?_) ?_ ?_
          rotate_left
          ·simp only [putAll, Act.put, List.setIfInBounds_toArray, List.set_cons_zero, List.set_cons_succ]
           rfl
          refine one_ (i := 9) (N := some 34) #[true, true, true, true, true, true, true, true, true, true, false, true, false] rfl rfl (one_of HT_.out (by kernel_rfl)) (by decide) (fun K hK => ?_)
          refine Kd.R_append_rows_step k46 (w0 := w) w.heap.size (by rfl) (.tmp 31) (.tmp 33) 23 46 (.agg #[(.string ⟨#[]⟩), (.int .i64 0)]) 24 rfl Try.underlying23 info46 rfl (by decide) (by omega) qae qbd qc _ _ _ (fun k_ => some k_ ≠ (.slice qp qc.length qo : Value).ownBlock) (fun _ => False) rfl rfl ?aO ?aR (fun _ _ h => h) (fun _ h => h.elim) ?aF ?aB ?aS ?aL ?_
          (case aR => repeat ((exact (Kd.R_reads' qf.out).2.2)))
          (case aB => exact (by repeat (((with_reducible (exact HB.out))))))
          (case aF => exact (fun k_ hk => Kd.fresh' (Kd.R_lt (by exact qf.out)) k_ hk))
          (case aO => exact (by exact qy.out))
          (case aS => exact (below_size (by repeat (((with_reducible (exact HB.out)))))))
          (case aL => have := qdq.out; omega)
          intro qbq w27 ho hb hg hat
          rw [← qdn.out] at ho
          have n0_ := Aside0.mk (Kd.S_after (ok := (fun k_ => some k_ ≠ (.slice qm qb.length qn : Value).ownBlock ∧ some k_ ≠ (.slice qp qc.length qo : Value).ownBlock ∧ some k_ ≠ (qaj : Value).ownBlock ∧ k_ ≠ qh ∧ k_ ≠ qi ∧ k_ ≠ qj)) (by exact Kd.S_mono HO_3.out (fun _ hk => ⟨⟨hk.2.2.1, ⟨hk.2.2.2.1, ⟨hk.1, ⟨hk.2.2.2.2.1, ⟨hk.2.2.2.2.2.1, hk.2.2.2.2.2.2⟩⟩⟩⟩⟩, hk.2.1⟩)) hg hat)
          have n1_ := Aside0.mk (Kd.R_over' (by exact qe.out) (Kd.R_typed (by exact qy.out)) (by decide) hg)
          have n2_ := Aside0.mk (Kd.R_after (ok := (fun _ => True)) (by exact Kd.R_mono qf.out (fun _ hk => ⟨trivial, hk⟩)) hg hat)
          have n3_ := Aside0.mk (blk_grown (g := qh) (o := .cells #[.bool a0_0, .slice A0_1 l0_1.length c0_1, .slice A0_2 l0_2.length c0_2] 25 (0, 0)) (by exact qd.out) hg (Kd.R_ne qy.out qd.out (by decide)))
          have n4_ := Aside0.mk (blk_grown (g := qi) (o := .cells #[.bool qk, .slice qm qb.length qn, .slice qp qc.length qo] 25 (0, 0)) (by exact qg.out) hg (Kd.R_ne qy.out qg.out (by decide)))
          have n5_ := Aside0.mk (Kd.R_over' (by exact qu.out) (Kd.R_typed (by exact qy.out)) (by decide) hg)
          have n6_ := Aside0.mk (blk_grown (g := qj) (o := .cells #[.bool false, .slice none 0 0, .slice none 0 0] 25 (0, 0)) (by exact ql.out) hg (Kd.R_ne qy.out ql.out (by decide)))
          have n7_ := Aside0.mk (hb)
          have n8_ := Aside0.mk (ho)
          clear HO_3 qe qf qd qg qu ql HB qy
          have HO_3 := n0_
          have qe := n1_
          have qf := n2_
          have qd := n3_
          have qg := n4_
          have qu := n5_
          have ql := n6_
          have HB := n7_
          have qz := n8_
          clear n0_ n1_ n2_ n3_ n4_ n5_ n6_ n7_ n8_ ho hb hg hat
          obtain ⟨qdi, qdf, qdl⟩ := Kd.R_slice qz.out
          ((subst qdl))
          obtain ⟨qdg, qdh, qdm⟩ := Kd.R_slice qu.out
          ((subst qdm))
          refine hK.out _ _ ⟨(blk_cell qd.out 0).trans rfl, (blk_cell qd.out 1).trans rfl, (blk_cell qd.out 2).trans rfl, (blk_cell qg.out 0).trans rfl, (blk_cell qg.out 1).trans rfl, (blk_cell qg.out 2).trans rfl⟩ (fun hHeld => ?_)
          clear hK K
          refine norm_ (a' := ?_) ?_ ?_
          rotate_left
          ·show Act.put _ (some 34) _ = _
           simp only [Act.put, List.setIfInBounds_toArray, List.set_cons_zero, List.set_cons_succ, i64_w, i32_w]
           rfl
          refine pure_ (i := 10) (N := some 35) (v := ?_) (a' := ?_) #[true, true, true, true, true, true, true, true, true, true, true, true, false] rfl rfl (any_of HT_.out (by kernel_rfl)) (fun _ _ _ h => h) (Or.inl ⟨by rfl, ?_⟩) ?_ ?_
          rotate_left
          ·intro w'
           go_simp
           with_reducible rfl
          rotate_left
          ·simp only [Act.put, List.setIfInBounds_toArray, List.set_cons_zero, List.set_cons_succ, i64_w, i32_w]
           rfl
          exact norm_ (by ((simp only [putAll, Act.put, List.setIfInBounds_toArray, List.set_cons_zero, List.set_cons_succ]; done))) (hJ2_5_6_9_11 (qaf, .slice qdg qx.length qdh, qae, .slice qdi qaa.length qdf, qj) _ ⟨hHeld, (by exact qu.out), (by exact qz.out), (by exact qe.out), (by exact Kd.R_mono qf.out (fun _ hk => hk.2)), (by exact Kd.S_mono HO_3.out (fun _ hk => ⟨hk.1.2.2.1, ⟨hk.2, ⟨hk.1.1, ⟨hk.1.2.1, ⟨hk.1.2.2.2.1, ⟨hk.1.2.2.2.2.1, hk.1.2.2.2.2.2⟩⟩⟩⟩⟩⟩)), (by exact qd.out), (by exact qg.out), (by exact ql.out), GW217.out, qai.out, qs.out, qv.out, qt.out, qw.out, (by repeat (((with_reducible (exact HB.out)))))⟩)
        ·skip
         rintro ⟨qaf, qaj, qae, qbq⟩ w28 ⟨hS_, h0_, h1_, h2_, h3_, h4_, h5_, h6_, h7_⟩
         have n0_ : Aside0 (Kd.R k44 44 w28 w.heap.size (fun k_ => some k_ ≠ (.slice qm qb.length qn : Value).ownBlock) qaj qx) := ⟨h0_⟩
         have n1_ : Aside0 (Kd.R k46 46 w28 w.heap.size (fun k_ => some k_ ≠ (.slice qp qc.length qo : Value).ownBlock) qbq qaa) := ⟨h1_⟩
         have n2_ : Aside0 (Kd.R k44 44 w28 w.heap.size (fun k_ => some k_ ≠ (qaj : Value).ownBlock) (.slice qm qb.length qn) qb) := ⟨h2_⟩
         have n3_ : Aside0 (Kd.R k46 46 w28 w.heap.size (fun k_ => some k_ ≠ (qbq : Value).ownBlock) (.slice qp qc.length qo) qc) := ⟨h3_⟩
         have n4_ : Aside0 (Kd.S k25 25 w28 w.heap.size (fun k_ => some k_ ≠ (qaj : Value).ownBlock ∧ some k_ ≠ (qbq : Value).ownBlock ∧ some k_ ≠ (.slice qm qb.length qn : Value).ownBlock ∧ some k_ ≠ (.slice qp qc.length qo : Value).ownBlock ∧ k_ ≠ qh ∧ k_ ≠ qi) u3 x3_1) := ⟨h4_⟩
         have n5_ : Aside0 (w28.heap[qh]? = some (.cells #[.bool a0_0, .slice A0_1 l0_1.length c0_1, .slice A0_2 l0_2.length c0_2] 25 (0, 0))) := ⟨h5_⟩
         have n6_ : Aside0 (w28.heap[qi]? = some (.cells #[.bool qk, .slice qm qb.length qn, .slice qp qc.length qo] 25 (0, 0))) := ⟨h6_⟩
         have n7_ : Aside0 (Below w.heap.size w w28) := ⟨h7_⟩
         clear HO_3 qe qf qd qg HB h0_ h1_ h2_ h3_ h4_ h5_ h6_ h7_
         have qu := n0_
         have qz := n1_
         have qe := n2_
         have qf := n3_
         have HO_3 := n4_
         have qd := n5_
         have qg := n6_
         have HB := n7_
         clear n0_ n1_ n2_ n3_ n4_ n5_ n6_ n7_
         have hHeld : w28.cell? ⟨qh, 0, none⟩ = some (.bool a0_0) ∧ w28.cell? ⟨qh, 1, none⟩ = some (.slice A0_1 l0_1.length c0_1) ∧ w28.cell? ⟨qh, 2, none⟩ = some (.slice A0_2 l0_2.length c0_2) ∧ w28.cell? ⟨qi, 0, none⟩ = some (.bool qk) ∧ w28.cell? ⟨qi, 1, none⟩ = some (.slice qm qb.length qn) ∧ w28.cell? ⟨qi, 2, none⟩ = some (.slice qp qc.length qo) := hS_
         obtain ⟨qdg, qdh, qdm⟩ := Kd.R_slice qz.out
         ((subst qdm))
         obtain ⟨qao, qan, qdj⟩ := Kd.R_slice qu.out
         ((subst qdj))
         refine norm_ (a' := ?_) ?_ ?_
         rotate_left
         ·simp only [putAll, Act.put, List.setIfInBounds_toArray, List.set_cons_zero, List.set_cons_succ]
          rfl
         refine one_ (i := 11) (N := some 6) #[true, true, true, true, true, true, true, true, true, true, true, true, false] rfl rfl (one_of HT_.out (by kernel_rfl)) (by decide) (fun K hK => ?_)
         refine box_step ?hg (N := 6) ?hd (cs := #[.bool false, .slice none 0 0, .slice none 0 0]) (t := 25) ?hr ?_; (case hd => rfl); (case hg => rfl); (case hr => ((go_simp; done)))
         intro qj hg w31 hbox hb
         have n0_ := Aside0.mk (Kd.S_below (Kd.S_elderB (by exact HO_3.out) qj (Nat.le_of_eq hg.symm)) hb)
         have n1_ := Aside0.mk (Kd.R_below (by exact qe.out) hb)
         have n2_ := Aside0.mk (Kd.R_below (by exact qf.out) hb)
         have n3_ := Aside0.mk (Kd.R_below (by exact qu.out) hb)
         have n4_ := Aside0.mk (Kd.R_below (by exact qz.out) hb)
         have n5_ := Aside0.mk (blk_below (g := qh) (o := .cells #[.bool a0_0, .slice A0_1 l0_1.length c0_1, .slice A0_2 l0_2.length c0_2] 25 (0, 0)) (by exact qd.out) hb)
         have n6_ := Aside0.mk (blk_below (g := qi) (o := .cells #[.bool qk, .slice qm qb.length qn, .slice qp qc.length qo] 25 (0, 0)) (by exact qg.out) hb)
         have n7_ := Aside0.mk (below_step (by repeat (((with_reducible (exact HB.out))))) hb)
         have n8_ := Aside0.mk (hbox)
         have n9_ := Aside0.mk ((by rw [hg]; exact (below_size (by repeat (((with_reducible (exact HB.out)))))) : w.heap.size ≤ qj))
         have n10_ := Aside0.mk ((by rw [hg]; exact (below_size (by repeat (((with_reducible (exact HB.out)))))) : w.heap.size ≤ qj))
         have n11_ := Aside0.mk ((by rw [hg]; exact Nat.ne_of_lt (blk_lt (g := qh) (o := .cells #[.bool a0_0, .slice A0_1 l0_1.length c0_1, .slice A0_2 l0_2.length c0_2] 25 (0, 0)) (by exact qd.out)) : qh ≠ qj))
         have n12_ := Aside0.mk ((by rw [hg]; exact Nat.ne_of_gt (blk_lt (g := qh) (o := .cells #[.bool a0_0, .slice A0_1 l0_1.length c0_1, .slice A0_2 l0_2.length c0_2] 25 (0, 0)) (by exact qd.out)) : qj ≠ qh))
         have n13_ := Aside0.mk ((by rw [hg]; exact Nat.ne_of_lt (blk_lt (g := qi) (o := .cells #[.bool qk, .slice qm qb.length qn, .slice qp qc.length qo] 25 (0, 0)) (by exact qg.out)) : qi ≠ qj))
         have n14_ := Aside0.mk ((by rw [hg]; exact Nat.ne_of_gt (blk_lt (g := qi) (o := .cells #[.bool qk, .slice qm qb.length qn, .slice qp qc.length qo] 25 (0, 0)) (by exact qg.out)) : qj ≠ qi))
         clear HO_3 qe qf qu qz qd qg HB
         have HO_3 := n0_
         have qe := n1_
         have qf := n2_
         have qu := n3_
         have qz := n4_
         have qd := n5_
         have qg := n6_
         have HB := n7_
         have ql := n8_
         have GW217 := n9_
         have qai := n10_
         have qs := n11_
         have qv := n12_
         have qt := n13_
         have qw := n14_
         clear n0_ n1_ n2_ n3_ n4_ n5_ n6_ n7_ n8_ n9_ n10_ n11_ n12_ n13_ n14_ hb hbox hg
         refine hK.out _ _ ⟨(blk_cell qd.out 0).trans rfl, (blk_cell qd.out 1).trans rfl, (blk_cell qd.out 2).trans rfl, (blk_cell qg.out 0).trans rfl, (blk_cell qg.out 1).trans rfl, (blk_cell qg.out 2).trans rfl⟩ (fun hHeld => ?_)
         clear hK K
         refine norm_ (a' := ?_) ?_ ?_
         rotate_left
         ·show Act.put _ (some 6) _ = _
          simp only [Act.put, List.setIfInBounds_toArray, List.set_cons_zero, List.set_cons_succ, i64_w, i32_w]
          rfl
         exact norm_ (by ((simp only [putAll, Act.put, List.setIfInBounds_toArray, List.set_cons_zero, List.set_cons_succ]; done))) (hJ2_5_6_9_11 (qaf, .slice qao qx.length qan, qae, .slice qdg qaa.length qdh, qj) _ ⟨hHeld, (by exact qu.out), (by exact qz.out), (by exact qe.out), (by exact qf.out), (by exact Kd.S_mono HO_3.out (fun _ hk => ⟨hk.1.1, ⟨hk.1.2.1, ⟨hk.1.2.2.1, ⟨hk.1.2.2.2.1, ⟨hk.1.2.2.2.2.1, ⟨hk.1.2.2.2.2.2, hk.2⟩⟩⟩⟩⟩⟩)), (by exact qd.out), (by exact qg.out), (by exact ql.out), GW217.out, qai.out, qs.out, qv.out, qt.out, qw.out, (by repeat (((with_reducible (exact HB.out)))))⟩)
       rintro ⟨qaf, qaj, qae, qbq, qj⟩ w29 ⟨hS_, h0_, h1_, h2_, h3_, h4_, h5_, h6_, h7_, h8_, h9_, h10_, h11_, h12_, h13_, h14_⟩
       have n0_ : Aside0 (Kd.R k44 44 w29 w.heap.size (fun k_ => some k_ ≠ (.slice qm qb.length qn : Value).ownBlock) qaj qx) := ⟨h0_⟩
       have n1_ : Aside0 (Kd.R k46 46 w29 w.heap.size (fun k_ => some k_ ≠ (.slice qp qc.length qo : Value).ownBlock) qbq qaa) := ⟨h1_⟩
       have n2_ : Aside0 (Kd.R k44 44 w29 w.heap.size (fun k_ => some k_ ≠ (qaj : Value).ownBlock) (.slice qm qb.length qn) qb) := ⟨h2_⟩
       have n3_ : Aside0 (Kd.R k46 46 w29 w.heap.size (fun k_ => some k_ ≠ (qbq : Value).ownBlock) (.slice qp qc.length qo) qc) := ⟨h3_⟩
       have n4_ : Aside0 (Kd.S k25 25 w29 w.heap.size (fun k_ => some k_ ≠ (qaj : Value).ownBlock ∧ some k_ ≠ (qbq : Value).ownBlock ∧ some k_ ≠ (.slice qm qb.length qn : Value).ownBlock ∧ some k_ ≠ (.slice qp qc.length qo : Value).ownBlock ∧ k_ ≠ qh ∧ k_ ≠ qi ∧ k_ ≠ qj) u3 x3_1) := ⟨h4_⟩
       have n5_ : Aside0 (w29.heap[qh]? = some (.cells #[.bool a0_0, .slice A0_1 l0_1.length c0_1, .slice A0_2 l0_2.length c0_2] 25 (0, 0))) := ⟨h5_⟩
       have n6_ : Aside0 (w29.heap[qi]? = some (.cells #[.bool qk, .slice qm qb.length qn, .slice qp qc.length qo] 25 (0, 0))) := ⟨h6_⟩
       have n7_ : Aside0 (w29.heap[qj]? = some (.cells #[.bool false, .slice none 0 0, .slice none 0 0] 25 (0, 0))) := ⟨h7_⟩
       have n8_ : Aside0 (w.heap.size ≤ qj) := ⟨h8_⟩
       have n9_ : Aside0 (w.heap.size ≤ qj) := ⟨h9_⟩
       have n10_ : Aside0 (qh ≠ qj) := ⟨h10_⟩
       have n11_ : Aside0 (qj ≠ qh) := ⟨h11_⟩
       have n12_ : Aside0 (qi ≠ qj) := ⟨h12_⟩
       have n13_ : Aside0 (qj ≠ qi) := ⟨h13_⟩
       have n14_ : Aside0 (Below w.heap.size w w29) := ⟨h14_⟩
       clear HO_3 qe qf qd qg HB h0_ h1_ h2_ h3_ h4_ h5_ h6_ h7_ h8_ h9_ h10_ h11_ h12_ h13_ h14_
       have qu := n0_
       have qz := n1_
       have qe := n2_
       have qf := n3_
       have HO_3 := n4_
       have qd := n5_
       have qg := n6_
       have ql := n7_
       have GW217 := n8_
       have qai := n9_
       have qs := n10_
       have qv := n11_
       have qt := n12_
       have qw := n13_
       have HB := n14_
       clear n0_ n1_ n2_ n3_ n4_ n5_ n6_ n7_ n8_ n9_ n10_ n11_ n12_ n13_ n14_
       have hHeld : w29.cell? ⟨qh, 0, none⟩ = some (.bool a0_0) ∧ w29.cell? ⟨qh, 1, none⟩ = some (.slice A0_1 l0_1.length c0_1) ∧ w29.cell? ⟨qh, 2, none⟩ = some (.slice A0_2 l0_2.length c0_2) ∧ w29.cell? ⟨qi, 0, none⟩ = some (.bool qk) ∧ w29.cell? ⟨qi, 1, none⟩ = some (.slice qm qb.length qn) ∧ w29.cell? ⟨qi, 2, none⟩ = some (.slice qp qc.length qo) := hS_
       obtain ⟨qao, qan, qdj⟩ := Kd.R_slice qz.out
       ((subst qdj))
       obtain ⟨qam, qal, qey⟩ := Kd.R_slice qu.out
       ((subst qey))
       refine norm_ (a' := ?_) ?_ ?_
       rotate_left
       ·simp only [putAll, Act.put, List.setIfInBounds_toArray, List.set_cons_zero, List.set_cons_succ]
        rfl
       refine one_ (i := 12) (N := none) #[true, true, true, true, true, true, true, true, true, true, true, true, true] rfl rfl (one_of HT_.out (by kernel_rfl)) (by decide) (fun K hK => ?_)
       have hs32 : w29.cell? ⟨qj, 0, none⟩ = some (.bool false) := (blk_cell ql.out 0).trans rfl
       have hfs32 := blk_frozen ql.out 0
       have hns32_0 := qs.out
       have hns32_1 := qt.out
       have hms32_0 := qv.out
       have hms32_1 := qw.out
       have hs33 : w29.cell? ⟨qj, 1, none⟩ = some (.slice none 0 0) := (blk_cell ql.out 1).trans rfl
       have hfs33 := blk_frozen ql.out 1
       have hns33_0 := qs.out
       have hns33_1 := qt.out
       have hms33_0 := qv.out
       have hms33_1 := qw.out
       have hs34 : w29.cell? ⟨qj, 2, none⟩ = some (.slice none 0 0) := (blk_cell ql.out 2).trans rfl
       have hfs34 := blk_frozen ql.out 2
       have hns34_0 := qs.out
       have hns34_1 := qt.out
       have hms34_0 := qv.out
       have hms34_1 := qw.out
       refine skip_ (w1 := ?_) (by rfl) rfl ?_ ?_
       rotate_left
       ·go_simp
        rfl
       refine hK.out _ _ ⟨((cell_far (p := ⟨qj, _, none⟩) qs.out _).trans (((cell_far (p := ⟨qj, _, none⟩) qs.out _).trans (((cell_far (p := ⟨qj, _, none⟩) qs.out _).trans (hHeld.1)))))), ((cell_far (p := ⟨qj, _, none⟩) qs.out _).trans (((cell_far (p := ⟨qj, _, none⟩) qs.out _).trans (((cell_far (p := ⟨qj, _, none⟩) qs.out _).trans (hHeld.2.1)))))), ((cell_far (p := ⟨qj, _, none⟩) qs.out _).trans (((cell_far (p := ⟨qj, _, none⟩) qs.out _).trans (((cell_far (p := ⟨qj, _, none⟩) qs.out _).trans (hHeld.2.2.1)))))), ((cell_far (p := ⟨qj, _, none⟩) qt.out _).trans (((cell_far (p := ⟨qj, _, none⟩) qt.out _).trans (((cell_far (p := ⟨qj, _, none⟩) qt.out _).trans (hHeld.2.2.2.1)))))), ((cell_far (p := ⟨qj, _, none⟩) qt.out _).trans (((cell_far (p := ⟨qj, _, none⟩) qt.out _).trans (((cell_far (p := ⟨qj, _, none⟩) qt.out _).trans (hHeld.2.2.2.2.1)))))), ((cell_far (p := ⟨qj, _, none⟩) qt.out _).trans (((cell_far (p := ⟨qj, _, none⟩) qt.out _).trans (((cell_far (p := ⟨qj, _, none⟩) qt.out _).trans (hHeld.2.2.2.2.2))))))⟩ (fun hHeld => ?_)
       clear hK K
       refine done_ (done_of HT_.out (by kernel_rfl)) ?_
       have hnb35 := qs.out
       have hnc35 := qv.out
       have hcz36_0 : w29.cell? ⟨qh, 0, none⟩ = some (.bool a0_0) := (blk_cell qd.out 0).trans rfl
       have hcz36_1 : w29.cell? ⟨qh, 1, none⟩ = some (.slice A0_1 l0_1.length c0_1) := (blk_cell qd.out 1).trans rfl
       have hcz36_2 : w29.cell? ⟨qh, 2, none⟩ = some (.slice A0_2 l0_2.length c0_2) := (blk_cell qd.out 2).trans rfl
       have hfz36_0 := blk_frozen qd.out 0
       have hfz36_1 := blk_frozen qd.out 1
       have hfz36_2 := blk_frozen qd.out 2
       go_upto_if 40 with (first | ((with_reducible refine gate_dst (N := 7) rfl ?_); refine box_event ?hg (N := 7) ?hd (cs := #[.bool false, .slice none 0 0, .slice none 0 0]) (t := 25) ?hr ?_; (case hd => rfl); (case hg => rfl); (case hr => ((go_simp; done))); intro qq hg w37 hbox hb; have n0_ := Aside0.mk (Kd.S_below (Kd.S_elderB (by exact (Kd.S_mono (Kd.S_far (p := ⟨qj, 2, none⟩) (Kd.S_far (p := ⟨qj, 1, none⟩) (Kd.S_far (p := ⟨qj, 0, none⟩) (Kd.S_mono HO_3.out (fun k_ hk => (⟨hk, hk.2.2.2.2.2.2⟩ : _ ∧ k_ ≠ qj))) (fun _ hk => hk.2) (.bool a0_0)) (fun _ hk => hk.2) (.slice qam qx.length qal)) (fun _ hk => hk.2) (.slice qao qaa.length qan)) (fun _ h_ => h_.1))) qq (Nat.le_of_eq hg.symm)) hb); have n1_ := Aside0.mk (Kd.R_below (by exact (Kd.R_mono (Kd.R_far (p := ⟨qj, 2, none⟩) (Kd.R_far (p := ⟨qj, 1, none⟩) (Kd.R_far (p := ⟨qj, 0, none⟩) (Kd.R_types qe.out ql.out (by decide)) (fun _ hk => hk.2) (.bool a0_0)) (fun _ hk => hk.2) (.slice qam qx.length qal)) (fun _ hk => hk.2) (.slice qao qaa.length qan)) (fun _ h_ => h_.1))) hb); have n2_ := Aside0.mk (Kd.R_below (by exact (Kd.R_mono (Kd.R_far (p := ⟨qj, 2, none⟩) (Kd.R_far (p := ⟨qj, 1, none⟩) (Kd.R_far (p := ⟨qj, 0, none⟩) (Kd.R_types qf.out ql.out (by decide)) (fun _ hk => hk.2) (.bool a0_0)) (fun _ hk => hk.2) (.slice qam qx.length qal)) (fun _ hk => hk.2) (.slice qao qaa.length qan)) (fun _ h_ => h_.1))) hb); have n3_ := Aside0.mk (Kd.R_below (by exact (Kd.R_mono (Kd.R_far (p := ⟨qj, 2, none⟩) (Kd.R_far (p := ⟨qj, 1, none⟩) (Kd.R_far (p := ⟨qj, 0, none⟩) (Kd.R_types qu.out ql.out (by decide)) (fun _ hk => hk.2) (.bool a0_0)) (fun _ hk => hk.2) (.slice qam qx.length qal)) (fun _ hk => hk.2) (.slice qao qaa.length qan)) (fun _ h_ => h_.1))) hb); have n4_ := Aside0.mk (Kd.R_below (by exact (Kd.R_mono (Kd.R_far (p := ⟨qj, 2, none⟩) (Kd.R_far (p := ⟨qj, 1, none⟩) (Kd.R_far (p := ⟨qj, 0, none⟩) (Kd.R_types qz.out ql.out (by decide)) (fun _ hk => hk.2) (.bool a0_0)) (fun _ hk => hk.2) (.slice qam qx.length qal)) (fun _ hk => hk.2) (.slice qao qaa.length qan)) (fun _ h_ => h_.1))) hb); have n5_ := Aside0.mk (blk_below (g := qh) (o := .cells #[.bool a0_0, .slice A0_1 l0_1.length c0_1, .slice A0_2 l0_2.length c0_2] 25 (0, 0)) (by refine blk_far ?_ qs.out _; refine blk_far ?_ qs.out _; refine blk_far ?_ qs.out _; exact qd.out) hb); have n6_ := Aside0.mk (blk_below (g := qi) (o := .cells #[.bool qk, .slice qm qb.length qn, .slice qp qc.length qo] 25 (0, 0)) (by refine blk_far ?_ qt.out _; refine blk_far ?_ qt.out _; refine blk_far ?_ qt.out _; exact qg.out) hb); have n7_ := Aside0.mk (blk_below (g := qj) (o := .cells #[.bool a0_0, .slice qam qx.length qal, .slice qao qaa.length qan] 25 (0, 0)) (by refine blk_put (cs := #[.bool a0_0, .slice qam qx.length qal, .slice none 0 0]) ?_ 2 _ rfl; refine blk_put (cs := #[.bool a0_0, .slice none 0 0, .slice none 0 0]) ?_ 1 _ rfl; refine blk_put (cs := #[.bool false, .slice none 0 0, .slice none 0 0]) ?_ 0 _ rfl; exact ql.out) hb); have n8_ := Aside0.mk (below_step (by repeat (((with_reducible first | exact HB.out | refine below_set ?_ qai.out)))) hb); have n9_ := Aside0.mk (hbox); have n10_ := Aside0.mk ((by rw [hg]; exact (below_size (by repeat (((with_reducible first | exact HB.out | refine below_set ?_ qai.out))))) : w.heap.size ≤ qq)); have n11_ := Aside0.mk ((by rw [hg]; exact (below_size (by repeat (((with_reducible first | exact HB.out | refine below_set ?_ qai.out))))) : w.heap.size ≤ qq)); have n12_ := Aside0.mk ((by rw [hg]; exact Nat.ne_of_lt (blk_lt (g := qh) (o := .cells #[.bool a0_0, .slice A0_1 l0_1.length c0_1, .slice A0_2 l0_2.length c0_2] 25 (0, 0)) (by refine blk_far ?_ qs.out _; refine blk_far ?_ qs.out _; refine blk_far ?_ qs.out _; exact qd.out)) : qh ≠ qq)); have n13_ := Aside0.mk ((by rw [hg]; exact Nat.ne_of_gt (blk_lt (g := qh) (o := .cells #[.bool a0_0, .slice A0_1 l0_1.length c0_1, .slice A0_2 l0_2.length c0_2] 25 (0, 0)) (by refine blk_far ?_ qs.out _; refine blk_far ?_ qs.out _; refine blk_far ?_ qs.out _; exact qd.out)) : qq ≠ qh)); have n14_ := Aside0.mk ((by rw [hg]; exact Nat.ne_of_lt (blk_lt (g := qi) (o := .cells #[.bool qk, .slice qm qb.length qn, .slice qp qc.length qo] 25 (0, 0)) (by refine blk_far ?_ qt.out _; refine blk_far ?_ qt.out _; refine blk_far ?_ qt.out _; exact qg.out)) : qi ≠ qq)); have n15_ := Aside0.mk ((by rw [hg]; exact Nat.ne_of_gt (blk_lt (g := qi) (o := .cells #[.bool qk, .slice qm qb.length qn, .slice qp qc.length qo] 25 (0, 0)) (by refine blk_far ?_ qt.out _; refine blk_far ?_ qt.out _; refine blk_far ?_ qt.out _; exact qg.out)) : qq ≠ qi)); have n16_ := Aside0.mk ((by rw [hg]; exact Nat.ne_of_lt (blk_lt (g := qj) (o := .cells #[.bool a0_0, .slice qam qx.length qal, .slice qao qaa.length qan] 25 (0, 0)) (by refine blk_put (cs := #[.bool a0_0, .slice qam qx.length qal, .slice none 0 0]) ?_ 2 _ rfl; refine blk_put (cs := #[.bool a0_0, .slice none 0 0, .slice none 0 0]) ?_ 1 _ rfl; refine blk_put (cs := #[.bool false, .slice none 0 0, .slice none 0 0]) ?_ 0 _ rfl; exact ql.out)) : qj ≠ qq)); have n17_ := Aside0.mk ((by rw [hg]; exact Nat.ne_of_gt (blk_lt (g := qj) (o := .cells #[.bool a0_0, .slice qam qx.length qal, .slice qao qaa.length qan] 25 (0, 0)) (by refine blk_put (cs := #[.bool a0_0, .slice qam qx.length qal, .slice none 0 0]) ?_ 2 _ rfl; refine blk_put (cs := #[.bool a0_0, .slice none 0 0, .slice none 0 0]) ?_ 1 _ rfl; refine blk_put (cs := #[.bool false, .slice none 0 0, .slice none 0 0]) ?_ 0 _ rfl; exact ql.out)) : qq ≠ qj)); clear HO_3; clear qe; clear qf; clear qu; clear qz; clear qd; clear qg; clear ql; clear HB; have HO_3 := n0_; have qe := n1_; have qf := n2_; have qu := n3_; have qz := n4_; have qd := n5_; have qg := n6_; have ql := n7_; have HB := n8_; have qr := n9_; have GW218 := n10_; have qcl := n11_; have qaw := n12_; have qbn := n13_; have qas := n14_; have qbm := n15_; have qak := n16_; have qbf := n17_; clear n0_ n1_ n2_ n3_ n4_ n5_ n6_ n7_ n8_ n9_ n10_ n11_ n12_ n13_ n14_ n15_ n16_ n17_; clear hb hbox hg; have hnb38 := qbn.out; have hnc38 := qaw.out; have hnb39 := qbm.out; have hnc39 := qas.out; have hnb40 := qbf.out; have hnc40 := qak.out; have hcz41_0 : w37.cell? ⟨qq, 0, none⟩ = some (.bool false) := (blk_cell qr.out 0).trans rfl; have hcz41_1 : w37.cell? ⟨qq, 1, none⟩ = some (.slice none 0 0) := (blk_cell qr.out 1).trans rfl; have hcz41_2 : w37.cell? ⟨qq, 2, none⟩ = some (.slice none 0 0) := (blk_cell qr.out 2).trans rfl; have hfz41_0 := blk_frozen qr.out 0; have hfz41_1 := blk_frozen qr.out 1; have hfz41_2 := blk_frozen qr.out 2; have hcz42_0 : w37.cell? ⟨qh, 0, none⟩ = some (.bool a0_0) := (blk_cell qd.out 0).trans rfl; have hcz42_1 : w37.cell? ⟨qh, 1, none⟩ = some (.slice A0_1 l0_1.length c0_1) := (blk_cell qd.out 1).trans rfl; have hcz42_2 : w37.cell? ⟨qh, 2, none⟩ = some (.slice A0_2 l0_2.length c0_2) := (blk_cell qd.out 2).trans rfl; have hfz42_0 := blk_frozen qd.out 0; have hfz42_1 := blk_frozen qd.out 1; have hfz42_2 := blk_frozen qd.out 2))
       (try simp only [Act.put, List.setIfInBounds_toArray, List.set_cons_zero, List.set_cons_succ])
       go_cut [] (fun wc => ∃ (kq : Nat) (qac : List (S44)) (qad : List (S46)) (qat : List (S44)) (qaz : List (S46)) (qbk : Value) (qbj : Value) (qau : Value) (qav : Value), Aside0 (coppiceref06_Split.j1 kq x3_1 x5_1 a0_0 l0_1 l0_2 qk qb qc a0_0 qac qad a0_0 qat qaz = some r) ∧ Aside0 (kq ≤ k1) ∧ Aside0 (Kd.S k25 25 wc w.heap.size (fun k_ => some k_ ≠ ((.slice qm qb.length qn) : Value).ownBlock ∧ some k_ ≠ ((.slice qp qc.length qo) : Value).ownBlock ∧ some k_ ≠ (qbk : Value).ownBlock ∧ some k_ ≠ (qbj : Value).ownBlock ∧ some k_ ≠ (qau : Value).ownBlock ∧ some k_ ≠ (qav : Value).ownBlock ∧ k_ ≠ qh ∧ k_ ≠ qi ∧ k_ ≠ qj ∧ k_ ≠ qq) u3 x3_1) ∧ Aside0 (Kd.R k44 44 wc w.heap.size (fun k_ => some k_ ≠ (qbk : Value).ownBlock ∧ some k_ ≠ (qau : Value).ownBlock) (.slice qm qb.length qn) qb) ∧ Aside0 (Kd.R k46 46 wc w.heap.size (fun k_ => some k_ ≠ (qbj : Value).ownBlock ∧ some k_ ≠ (qav : Value).ownBlock) (.slice qp qc.length qo) qc) ∧ Aside0 (Kd.R k44 44 wc w.heap.size (fun k_ => some k_ ≠ ((.slice qm qb.length qn) : Value).ownBlock ∧ some k_ ≠ (qau : Value).ownBlock) qbk qac) ∧ Aside0 (Kd.R k46 46 wc w.heap.size (fun k_ => some k_ ≠ ((.slice qp qc.length qo) : Value).ownBlock ∧ some k_ ≠ (qav : Value).ownBlock) qbj qad) ∧ Aside0 (Kd.R k44 44 wc w.heap.size (fun k_ => some k_ ≠ ((.slice qm qb.length qn) : Value).ownBlock ∧ some k_ ≠ (qbk : Value).ownBlock) qau qat) ∧ Aside0 (Kd.R k46 46 wc w.heap.size (fun k_ => some k_ ≠ ((.slice qp qc.length qo) : Value).ownBlock ∧ some k_ ≠ (qbj : Value).ownBlock) qav qaz) ∧ Aside0 (wc.heap[qh]? = some (.cells #[.bool a0_0, (.slice A0_1 l0_1.length c0_1), (.slice A0_2 l0_2.length c0_2)] 25 (0, 0))) ∧ Aside0 (wc.heap[qi]? = some (.cells #[.bool qk, (.slice qm qb.length qn), (.slice qp qc.length qo)] 25 (0, 0))) ∧ Aside0 (wc.heap[qj]? = some (.cells #[.bool a0_0, qbk, qbj] 25 (0, 0))) ∧ Aside0 (wc.heap[qq]? = some (.cells #[.bool a0_0, qau, qav] 25 (0, 0))) ∧ Aside0 (Below w.heap.size w wc))
       case first =>
        have H := qdk.out
        clear qdk
        by_cases c43 : a0_0 = true
        ·subst c43
         have H1 : (if 0 ≤ x5_1 then (if x5_1 < (l0_1.length : Int) then (if qx.length < 4398046511104 then (if ([] : List (S44)).length < 4398046511104 then (coppiceref06_Split.j1 k1 x3_1 x5_1 true l0_1 l0_2 qk qb qc true (qx ++ [(⟨(rd_T44 l0_1 x5_1).f0, (rd_T44 l0_1 x5_1).f1⟩ : S44)]) qaa true (([] : List (S44)) ++ [(⟨(rd_T44 l0_1 x5_1).f0, (rd_T44 l0_1 x5_1).f1⟩ : S44)]) ([] : List (S46))) else (none)) else (none)) else (none)) else (none)) = some r := by rw [if_pos rfl] at H; exact H
         clear H
         have H := H1
         clear H1
         by_cases c44 : 0 ≤ x5_1
         ·rw [if_pos c44] at H
          have c44b0 : decide (0 ≤ x5_1) = true := decide_eq_true c44
          clear c44
          ((skip))
          by_cases c45 : x5_1 < (l0_1.length : Int)
          ·rw [if_pos c45] at H
           have c45b0 : decide (x5_1 < (l0_1.length : Int)) = true := decide_eq_true c45
           clear c45
           by_cases c46 : qx.length < 4398046511104
           ·rw [if_pos c46] at H
            have qdu := Aside0.mk c46
            clear c46
            obtain ⟨qay, qcx⟩ : ∃ y_ : List (S44), y_ = (qx ++ [(⟨(rd_T44 l0_1 x5_1).f0, (rd_T44 l0_1 x5_1).f1⟩ : S44)]) := ⟨_, rfl⟩
            replace H : (if ([] : List (S44)).length < 4398046511104 then (coppiceref06_Split.j1 k1 x3_1 x5_1 true l0_1 l0_2 qk qb qc true qay qaa true (([] : List (S44)) ++ [(⟨(rd_T44 l0_1 x5_1).f0, (rd_T44 l0_1 x5_1).f1⟩ : S44)]) ([] : List (S46))) else (none)) = some r := by ((rw [qcx]; with_reducible exact H))
            have qeg := Aside0.mk qcx
            clear qcx
            by_cases c47 : ([] : List (S44)).length < 4398046511104
            ·rw [if_pos c47] at H
             have qea := Aside0.mk c47
             clear c47
             obtain ⟨qbu, qdb⟩ : ∃ y_ : List (S44), y_ = (([] : List (S44)) ++ [(⟨(rd_T44 l0_1 x5_1).f0, (rd_T44 l0_1 x5_1).f1⟩ : S44)]) := ⟨_, rfl⟩
             replace H : (coppiceref06_Split.j1 k1 x3_1 x5_1 true l0_1 l0_2 qk qb qc true qay qaa true qbu ([] : List (S46))) = some r := by ((rw [qdb]; with_reducible exact H))
             have qdw := Aside0.mk qdb
             clear qdb
             have H' := Aside0.mk H
             clear H
             try go_wp2
             have n0_ : Aside0 (Kd.S k25 25 (((w37.setCell ⟨qq, 0, none⟩ (.bool true)).setCell ⟨qq, 1, none⟩ (.slice none 0 0)).setCell ⟨qq, 2, none⟩ (.slice none 0 0)) w.heap.size (fun k_ => some k_ ≠ (.slice qm qb.length qn : Value).ownBlock ∧ some k_ ≠ (.slice qp qc.length qo : Value).ownBlock ∧ some k_ ≠ (.slice qam qx.length qal : Value).ownBlock ∧ some k_ ≠ (.slice qao qaa.length qan : Value).ownBlock ∧ k_ ≠ qh ∧ k_ ≠ qi ∧ k_ ≠ qj ∧ k_ ≠ qq) u3 x3_1) := ⟨by exact Kd.S_mono (Kd.S_far (p := ⟨qq, 2, none⟩) (Kd.S_far (p := ⟨qq, 1, none⟩) (Kd.S_far (p := ⟨qq, 0, none⟩) (Kd.S_mono HO_3.out (fun k_ hk => (⟨hk, hk.2⟩ : _ ∧ k_ ≠ qq))) (fun _ hk => hk.2) (.bool true)) (fun _ hk => hk.2) (.slice none 0 0)) (fun _ hk => hk.2) (.slice none 0 0)) (fun _ hk => ⟨hk.1.1.2.2.1, ⟨hk.1.1.2.2.2.1, ⟨hk.1.1.1, ⟨hk.1.1.2.1, ⟨hk.1.1.2.2.2.2.1, ⟨hk.1.1.2.2.2.2.2.1, ⟨hk.1.1.2.2.2.2.2.2, hk.1.2⟩⟩⟩⟩⟩⟩⟩)⟩
             have n1_ : Aside0 (Kd.R k44 44 (((w37.setCell ⟨qq, 0, none⟩ (.bool true)).setCell ⟨qq, 1, none⟩ (.slice none 0 0)).setCell ⟨qq, 2, none⟩ (.slice none 0 0)) w.heap.size (fun k_ => some k_ ≠ (.slice qam qx.length qal : Value).ownBlock) (.slice qm qb.length qn) qb) := ⟨by exact Kd.R_mono (Kd.R_far (p := ⟨qq, 2, none⟩) (Kd.R_far (p := ⟨qq, 1, none⟩) (Kd.R_far (p := ⟨qq, 0, none⟩) (Kd.R_types qe.out qr.out (by decide)) (fun _ hk => hk.2) (.bool true)) (fun _ hk => hk.2) (.slice none 0 0)) (fun _ hk => hk.2) (.slice none 0 0)) (fun _ hk => hk.1)⟩
             have n2_ : Aside0 (Kd.R k46 46 (((w37.setCell ⟨qq, 0, none⟩ (.bool true)).setCell ⟨qq, 1, none⟩ (.slice none 0 0)).setCell ⟨qq, 2, none⟩ (.slice none 0 0)) w.heap.size (fun k_ => some k_ ≠ (.slice qao qaa.length qan : Value).ownBlock) (.slice qp qc.length qo) qc) := ⟨by exact Kd.R_mono (Kd.R_far (p := ⟨qq, 2, none⟩) (Kd.R_far (p := ⟨qq, 1, none⟩) (Kd.R_far (p := ⟨qq, 0, none⟩) (Kd.R_types qf.out qr.out (by decide)) (fun _ hk => hk.2) (.bool true)) (fun _ hk => hk.2) (.slice none 0 0)) (fun _ hk => hk.2) (.slice none 0 0)) (fun _ hk => hk.1)⟩
             have n3_ : Aside0 (Kd.R k44 44 (((w37.setCell ⟨qq, 0, none⟩ (.bool true)).setCell ⟨qq, 1, none⟩ (.slice none 0 0)).setCell ⟨qq, 2, none⟩ (.slice none 0 0)) w.heap.size (fun k_ => some k_ ≠ (.slice qm qb.length qn : Value).ownBlock) (.slice qam qx.length qal) qx) := ⟨by exact Kd.R_mono (Kd.R_far (p := ⟨qq, 2, none⟩) (Kd.R_far (p := ⟨qq, 1, none⟩) (Kd.R_far (p := ⟨qq, 0, none⟩) (Kd.R_types qu.out qr.out (by decide)) (fun _ hk => hk.2) (.bool true)) (fun _ hk => hk.2) (.slice none 0 0)) (fun _ hk => hk.2) (.slice none 0 0)) (fun _ hk => hk.1)⟩
             have n4_ : Aside0 (Kd.R k46 46 (((w37.setCell ⟨qq, 0, none⟩ (.bool true)).setCell ⟨qq, 1, none⟩ (.slice none 0 0)).setCell ⟨qq, 2, none⟩ (.slice none 0 0)) w.heap.size (fun k_ => some k_ ≠ (.slice qp qc.length qo : Value).ownBlock) (.slice qao qaa.length qan) qaa) := ⟨by exact Kd.R_mono (Kd.R_far (p := ⟨qq, 2, none⟩) (Kd.R_far (p := ⟨qq, 1, none⟩) (Kd.R_far (p := ⟨qq, 0, none⟩) (Kd.R_types qz.out qr.out (by decide)) (fun _ hk => hk.2) (.bool true)) (fun _ hk => hk.2) (.slice none 0 0)) (fun _ hk => hk.2) (.slice none 0 0)) (fun _ hk => hk.1)⟩
             have n5_ : Aside0 ((((w37.setCell ⟨qq, 0, none⟩ (.bool true)).setCell ⟨qq, 1, none⟩ (.slice none 0 0)).setCell ⟨qq, 2, none⟩ (.slice none 0 0)).heap[qh]? = some (.cells #[.bool true, .slice A0_1 l0_1.length c0_1, .slice A0_2 l0_2.length c0_2] 25 (0, 0))) := ⟨by refine blk_far ?_ qaw.out _; refine blk_far ?_ qaw.out _; refine blk_far ?_ qaw.out _; exact qd.out⟩
             have n6_ : Aside0 ((((w37.setCell ⟨qq, 0, none⟩ (.bool true)).setCell ⟨qq, 1, none⟩ (.slice none 0 0)).setCell ⟨qq, 2, none⟩ (.slice none 0 0)).heap[qi]? = some (.cells #[.bool qk, .slice qm qb.length qn, .slice qp qc.length qo] 25 (0, 0))) := ⟨by refine blk_far ?_ qas.out _; refine blk_far ?_ qas.out _; refine blk_far ?_ qas.out _; exact qg.out⟩
             have n7_ : Aside0 ((((w37.setCell ⟨qq, 0, none⟩ (.bool true)).setCell ⟨qq, 1, none⟩ (.slice none 0 0)).setCell ⟨qq, 2, none⟩ (.slice none 0 0)).heap[qj]? = some (.cells #[.bool true, .slice qam qx.length qal, .slice qao qaa.length qan] 25 (0, 0))) := ⟨by refine blk_far ?_ qak.out _; refine blk_far ?_ qak.out _; refine blk_far ?_ qak.out _; exact ql.out⟩
             have n8_ : Aside0 ((((w37.setCell ⟨qq, 0, none⟩ (.bool true)).setCell ⟨qq, 1, none⟩ (.slice none 0 0)).setCell ⟨qq, 2, none⟩ (.slice none 0 0)).heap[qq]? = some (.cells #[.bool true, .slice none 0 0, .slice none 0 0] 25 (0, 0))) := ⟨by refine blk_put (cs := #[.bool true, .slice none 0 0, .slice none 0 0]) ?_ 2 _ rfl; refine blk_put (cs := #[.bool true, .slice none 0 0, .slice none 0 0]) ?_ 1 _ rfl; refine blk_put (cs := #[.bool false, .slice none 0 0, .slice none 0 0]) ?_ 0 _ rfl; exact qr.out⟩
             have n9_ : Aside0 (Below w.heap.size w (((w37.setCell ⟨qq, 0, none⟩ (.bool true)).setCell ⟨qq, 1, none⟩ (.slice none 0 0)).setCell ⟨qq, 2, none⟩ (.slice none 0 0))) := ⟨by repeat (((with_reducible first | exact HB.out | refine below_set ?_ qcl.out)))⟩
             (try clear HO_3)
             (try clear qe)
             (try clear qf)
             (try clear qu)
             (try clear qz)
             (try clear qd)
             (try clear qg)
             (try clear ql)
             (try clear qr)
             (try clear HB)
             generalize (((w37.setCell ⟨qq, 0, none⟩ (.bool true)).setCell ⟨qq, 1, none⟩ (.slice none 0 0)).setCell ⟨qq, 2, none⟩ (.slice none 0 0)) = w48 at n0_ n1_ n2_ n3_ n4_ n5_ n6_ n7_ n8_ n9_ ⊢
             have HO_3 := n0_
             have qe := n1_
             have qf := n2_
             have qu := n3_
             have qz := n4_
             have qd := n5_
             have qg := n6_
             have ql := n7_
             have qr := n8_
             have HB := n9_
             clear n0_ n1_ n2_ n3_ n4_ n5_ n6_ n7_ n8_ n9_
             have n0_ := Aside0.mk (Kd.S_drew HO_3.out)
             have n1_ := Aside0.mk (Kd.R_drew qe.out)
             have n2_ := Aside0.mk (Kd.R_drew qf.out)
             have n3_ := Aside0.mk (Kd.R_drew qu.out)
             have n4_ := Aside0.mk (Kd.R_drew qz.out)
             have n5_ := Aside0.mk (blk_drew qd.out)
             have n6_ := Aside0.mk (blk_drew qg.out)
             have n7_ := Aside0.mk (blk_drew ql.out)
             have n8_ := Aside0.mk (blk_drew qr.out)
             have n9_ := Aside0.mk (below_drew1 HB.out)
             clear HO_3 qe qf qu qz qd qg ql qr HB
             have HO_3 := n0_
             have qe := n1_
             have qf := n2_
             have qu := n3_
             have qz := n4_
             have qd := n5_
             have qg := n6_
             have ql := n7_
             have qr := n8_
             have HB := n9_
             clear n0_ n1_ n2_ n3_ n4_ n5_ n6_ n7_ n8_ n9_
             have p219 : 0 ≤ (x5_1 : Int) := of_decide_eq_true (by ((with_reducible assumption)))
             have q219 : x5_1 < (l0_1.length : Int) := of_decide_eq_true (by ((with_reducible assumption)))
             obtain ⟨ad219, e219, hx219_0, hx219_1⟩ := at_T44 HR0_1.out x5_1 p219 q219
             have hw219_1 := hx219_1
             have hw219_0 := hx219_0
             cases e219
             replace hx219_0 := (HB.out.cell (World.block_lt_of_cell? w _ hx219_0)).trans hx219_0
             replace hx219_1 := (HB.out.cell (World.block_lt_of_cell? w _ hx219_1)).trans hx219_1
             replace p219 := eq_true p219
             replace q219 := eq_true q219
             refine start_ (n := 11) (S := fun w' => w'.cell? ⟨qj, 0, none⟩ = some (.bool true) ∧ w'.cell? ⟨qj, 1, none⟩ = some (.slice qam qx.length qal) ∧ w'.cell? ⟨qj, 2, none⟩ = some (.slice qao qaa.length qan) ∧ w'.cell? ⟨qh, 0, none⟩ = some (.bool true) ∧ w'.cell? ⟨qh, 1, none⟩ = some (.slice (some ad219) l0_1.length c0_1) ∧ w'.cell? ⟨qh, 2, none⟩ = some (.slice A0_2 l0_2.length c0_2) ∧ w'.cell? (ad219.add ((x5_1).toNat * 2)) = some (.string ((rd_T44 l0_1 x5_1).f0)) ∧ w'.cell? ⟨(ad219.add ((x5_1).toNat * 2)).block, (ad219.add ((x5_1).toNat * 2)).off + 1, none⟩ = some (.string ((rd_T44 l0_1 x5_1).f1))) (ds := [10]) #[false, false, false, false, false, false, false, false, false, false, false] (by kernel_rfl) rfl rfl ⟨(blk_cell ql.out 0).trans rfl, (blk_cell ql.out 1).trans rfl, (blk_cell ql.out 2).trans rfl, (blk_cell qd.out 0).trans rfl, (blk_cell qd.out 1).trans rfl, (blk_cell qd.out 2).trans rfl, ((HB.out.cell (World.block_lt_of_cell? w _ hw219_0)).trans hw219_0), ((HB.out.cell (World.block_lt_of_cell? w _ hw219_1)).trans hw219_1)⟩ (fun hHeld => ?_); refine with_tabW coppiceref06_Split.tab11 coppiceref06_Split.bits11 (fun HT_ HW_ => ?_)
             generalize w48.drew = w49 at HO_3 qe qf qu qz qd qg ql qr HB hx219_0 hx219_1 hHeld ⊢
             refine pure_ (i := 0) (N := some 41) (v := ?_) (a' := ?_) #[true, false, false, false, false, false, false, false, false, false, false] rfl rfl (any_of HT_.out (by kernel_rfl)) (fun _ _ _ h => h) (Or.inl ⟨by rfl, ?_⟩) ?_ ?_
             rotate_left
             ·intro w'
              go_simp
              with_reducible rfl
             rotate_left
             ·simp only [Act.put, List.setIfInBounds_toArray, List.set_cons_zero, List.set_cons_succ, i64_w, i32_w]
              rfl
             refine pure_ (i := 2) (N := some 43) (v := ?_) (a' := ?_) #[true, false, true, false, false, false, false, false, false, false, false] rfl rfl (any_of HT_.out (by kernel_rfl)) (fun _ _ _ h => h) (Or.inl ⟨by rfl, ?_⟩) ?_ ?_
             rotate_left
             ·intro w'
              go_simp
              with_reducible rfl
             rotate_left
             ·simp only [Act.put, List.setIfInBounds_toArray, List.set_cons_zero, List.set_cons_succ, i64_w, i32_w]
              rfl
             refine pure_ (i := 4) (N := some 45) (v := ?_) (a' := ?_) #[true, false, true, false, true, false, false, false, false, false, false] rfl rfl (any_of HT_.out (by kernel_rfl)) (fun _ _ _ h => h) (Or.inl ⟨by rfl, ?_⟩) ?_ ?_
             rotate_left
             ·intro w'
              go_simp
              with_reducible rfl
             rotate_left
             ·simp only [Act.put, List.setIfInBounds_toArray, List.set_cons_zero, List.set_cons_succ, i64_w, i32_w]
              rfl
             refine take_ (i := 1) (N := some 42) (v := ?_) (a' := ?_) #[true, true, true, false, true, false, false, false, false, false, false] rfl rfl (take_ofW HT_.out HW_.out (by kernel_rfl)) (fun _ _ _ h => h) (Or.inl ⟨by rfl, ?_⟩) hHeld ?_ ?_
             rotate_left
             ·rintro w' ⟨s0, s1, s2, s3, s4, s5, s6, s7⟩
              go_simp
              with_reducible rfl
             rotate_left
             ·simp only [Act.put, List.setIfInBounds_toArray, List.set_cons_zero, List.set_cons_succ, i64_w, i32_w]
              rfl
             refine take_ (i := 3) (N := some 44) (v := ?_) (a' := ?_) #[true, true, true, true, true, false, false, false, false, false, false] rfl rfl (take_ofW HT_.out HW_.out (by kernel_rfl)) (fun _ _ _ h => h) (Or.inl ⟨by rfl, ?_⟩) hHeld ?_ ?_
             rotate_left
             ·rintro w' ⟨s0, s1, s2, s3, s4, s5, s6, s7⟩
              go_simp
              with_reducible rfl
             rotate_left
             ·simp only [Act.put, List.setIfInBounds_toArray, List.set_cons_zero, List.set_cons_succ, i64_w, i32_w]
              rfl
             refine pure_ (i := 5) (N := some 46) (v := ?_) (a' := ?_) #[true, true, true, true, true, true, false, false, false, false, false] rfl rfl (any_of HT_.out (by kernel_rfl)) (fun _ _ _ h => h) (Or.inl ⟨by rfl, ?_⟩) ?_ ?_
             rotate_left
             ·intro w'
              go_simp
              with_reducible rfl
             rotate_left
             ·simp only [Act.put, List.setIfInBounds_toArray, List.set_cons_zero, List.set_cons_succ, i64_w, i32_w]
              rfl
             refine take_ (i := 6) (N := some 47) (v := ?_) (a' := ?_) #[true, true, true, true, true, true, true, false, false, false, false] rfl rfl (take_ofW HT_.out HW_.out (by kernel_rfl)) (fun _ _ _ h => h) (Or.inl ⟨by rfl, ?_⟩) hHeld ?_ ?_
             rotate_left
             ·rintro w' ⟨s0, s1, s2, s3, s4, s5, s6, s7⟩
              go_simp
              with_reducible rfl
             rotate_left
             ·simp only [Act.put, List.setIfInBounds_toArray, List.set_cons_zero, List.set_cons_succ, i64_w, i32_w]
              rfl
             refine one_ (i := 7) (N := some 48) #[true, true, true, true, true, true, true, true, false, false, false] rfl rfl (one_of HT_.out (by kernel_rfl)) (by decide) (fun K hK => ?_)
             refine value_ (w1 := ?_) (v := ?_) (by rfl) rfl ?_ ?_
             rotate_left 2
             ·go_simp
              constructor
              ·rfl
              ·rfl
             refine hK.out _ _ ⟨(blk_cell (blk_alloc ql.out _) 0).trans rfl, (blk_cell (blk_alloc ql.out _) 1).trans rfl, (blk_cell (blk_alloc ql.out _) 2).trans rfl, (blk_cell (blk_alloc qd.out _) 0).trans rfl, (blk_cell (blk_alloc qd.out _) 1).trans rfl, (blk_cell (blk_alloc qd.out _) 2).trans rfl, (World.cell?_alloc_lt _ _ _ (World.block_lt_of_cell? _ _ (((HB.out.cell (World.block_lt_of_cell? w _ hw219_0)).trans hw219_0)))).trans (((HB.out.cell (World.block_lt_of_cell? w _ hw219_0)).trans hw219_0)), (World.cell?_alloc_lt _ _ _ (World.block_lt_of_cell? _ _ (((HB.out.cell (World.block_lt_of_cell? w _ hw219_1)).trans hw219_1)))).trans (((HB.out.cell (World.block_lt_of_cell? w _ hw219_1)).trans hw219_1))⟩ (fun hHeld => ?_)
             clear hK K
             refine norm_ (a' := ?_) ?_ ?_
             rotate_left
             ·show Act.put _ (some 48) _ = _
              simp only [Act.put, List.setIfInBounds_toArray, List.set_cons_zero, List.set_cons_succ, i64_w, i32_w]
              rfl
             refine one_ (i := 8) (N := some 49) #[true, true, true, true, true, true, true, true, true, false, false] rfl rfl (one_of HT_.out (by kernel_rfl)) (by decide) (fun K hK => ?_)
             refine Kd.R_append_step k44 (w0 := w) w.heap.size (by rfl) (.tmp 42) (.tmp 48) 22 44 (.agg #[(.string ⟨#[]⟩), (.string ⟨#[]⟩)]) 32 rfl Try.underlying22 info44 rfl (by decide) (by omega) (.slice qam qx.length qal) qx (⟨(rd_T44 l0_1 x5_1).f0, (rd_T44 l0_1 x5_1).f1⟩ : S44) [.string ((rd_T44 l0_1 x5_1).f0), .string ((rd_T44 l0_1 x5_1).f1)] (fun k_ => some k_ ≠ (.slice qm qb.length qn : Value).ownBlock) (fun _ => False) rfl rfl ?aP (fun _ hk => hk.elim) ?aF ?aO ?aB ?aS ?aL ?_
             (case aP => exact k44_mkM _ _ _ (⟨(rd_T44 l0_1 x5_1).f0, (rd_T44 l0_1 x5_1).f1⟩ : S44))
             (case aB => exact (by repeat (((with_reducible (exact HB.out))))))
             (case aF => exact (fun k_ hk => Kd.fresh' (Kd.R_lt (by exact qe.out)) k_ hk))
             (case aO => exact (by exact qu.out))
             (case aS => exact (below_size (by repeat (((with_reducible (exact HB.out)))))))
             (case aL => have := qdu.out; omega)
             intro qfd w50 ho hb hg hat
             rw [← qeg.out] at ho
             have n0_ := Aside0.mk (Kd.S_after (ok := (fun k_ => some k_ ≠ (.slice qm qb.length qn : Value).ownBlock ∧ some k_ ≠ (.slice qp qc.length qo : Value).ownBlock ∧ some k_ ≠ (.slice qao qaa.length qan : Value).ownBlock ∧ k_ ≠ qh ∧ k_ ≠ qi ∧ k_ ≠ qj ∧ k_ ≠ qq)) (by exact Kd.S_mono HO_3.out (fun _ hk => ⟨⟨hk.1, ⟨hk.2.1, ⟨hk.2.2.2.1, ⟨hk.2.2.2.2.1, ⟨hk.2.2.2.2.2.1, ⟨hk.2.2.2.2.2.2.1, hk.2.2.2.2.2.2.2⟩⟩⟩⟩⟩⟩, hk.2.2.1⟩)) hg hat)
             have n1_ := Aside0.mk (Kd.R_after (ok := (fun _ => True)) (by exact Kd.R_mono qe.out (fun _ hk => ⟨trivial, hk⟩)) hg hat)
             have n2_ := Aside0.mk (Kd.R_over' (by exact qf.out) (Kd.R_typed (by exact qu.out)) (by decide) hg)
             have n3_ := Aside0.mk (blk_grown (g := qh) (o := .cells #[.bool true, .slice (some ad219) l0_1.length c0_1, .slice A0_2 l0_2.length c0_2] 25 (0, 0)) (by exact qd.out) hg (Kd.R_ne qu.out qd.out (by decide)))
             have n4_ := Aside0.mk (blk_grown (g := qi) (o := .cells #[.bool qk, .slice qm qb.length qn, .slice qp qc.length qo] 25 (0, 0)) (by exact qg.out) hg (Kd.R_ne qu.out qg.out (by decide)))
             have n5_ := Aside0.mk (Kd.R_over' (by exact qz.out) (Kd.R_typed (by exact qu.out)) (by decide) hg)
             have n6_ := Aside0.mk (blk_grown (g := qj) (o := .cells #[.bool true, .slice qam qx.length qal, .slice qao qaa.length qan] 25 (0, 0)) (by exact ql.out) hg (Kd.R_ne qu.out ql.out (by decide)))
             have n7_ := Aside0.mk (blk_grown (g := qq) (o := .cells #[.bool true, .slice none 0 0, .slice none 0 0] 25 (0, 0)) (by exact qr.out) hg (Kd.R_ne qu.out qr.out (by decide)))
             have n8_ := Aside0.mk (hb)
             have n9_ := Aside0.mk (ho)
             clear HO_3 qe qf qd qg qz ql qr HB qu
             have HO_3 := n0_
             have qe := n1_
             have qf := n2_
             have qd := n3_
             have qg := n4_
             have qz := n5_
             have ql := n6_
             have qr := n7_
             have HB := n8_
             have qbg := n9_
             clear n0_ n1_ n2_ n3_ n4_ n5_ n6_ n7_ n8_ n9_ ho hb hg hat
             obtain ⟨qbe, qbb, qeq⟩ := Kd.R_slice qbg.out
             ((subst qeq))
             refine hK.out _ _ ⟨(blk_cell ql.out 0).trans rfl, (blk_cell ql.out 1).trans rfl, (blk_cell ql.out 2).trans rfl, (blk_cell qd.out 0).trans rfl, (blk_cell qd.out 1).trans rfl, (blk_cell qd.out 2).trans rfl, ((HB.out.cell (World.block_lt_of_cell? w _ hw219_0)).trans hw219_0), ((HB.out.cell (World.block_lt_of_cell? w _ hw219_1)).trans hw219_1)⟩ (fun hHeld => ?_)
             clear hK K
             refine norm_ (a' := ?_) ?_ ?_
             rotate_left
             ·show Act.put _ (some 49) _ = _
              simp only [Act.put, List.setIfInBounds_toArray, List.set_cons_zero, List.set_cons_succ, i64_w, i32_w]
              rfl
             refine pure_ (i := 9) (N := some 50) (v := ?_) (a' := ?_) #[true, true, true, true, true, true, true, true, true, true, false] rfl rfl (any_of HT_.out (by kernel_rfl)) (fun _ _ _ h => h) (Or.inl ⟨by rfl, ?_⟩) ?_ ?_
             rotate_left
             ·intro w'
              go_simp
              with_reducible rfl
             rotate_left
             ·simp only [Act.put, List.setIfInBounds_toArray, List.set_cons_zero, List.set_cons_succ, i64_w, i32_w]
              rfl
             refine last_ (i := 10) (N := none) #[true, true, true, true, true, true, true, true, true, true, true] rfl rfl (one_of HT_.out (by kernel_rfl)) (by decide) (fun K hK => ?_)
             have hs52 : w50.cell? ⟨qj, 1, none⟩ = some (.slice qam qx.length qal) := (blk_cell ql.out 1).trans rfl
             have hfs52 := blk_frozen ql.out 1
             have hns52_0 := qs.out
             have hns52_1 := qt.out
             have hns52_3 := qbf.out
             have hms52_0 := qv.out
             have hms52_1 := qw.out
             have hms52_3 := qak.out
             refine skip_ (w1 := ?_) (by rfl) rfl ?_ ?_
             rotate_left
             ·go_simp
              rfl
             refine hK.out _ _ ?_
             clear hK K
             refine done_ (done_of HT_.out (by kernel_rfl)) ?_
             try go_wp2
             have n0_ : Aside0 (Kd.S k25 25 (w50.setCell ⟨qj, 1, none⟩ (.slice qbe qay.length qbb)) w.heap.size (fun k_ => some k_ ≠ (.slice qm qb.length qn : Value).ownBlock ∧ some k_ ≠ (.slice qp qc.length qo : Value).ownBlock ∧ some k_ ≠ (.slice qao qaa.length qan : Value).ownBlock ∧ some k_ ≠ (.slice qbe qay.length qbb : Value).ownBlock ∧ k_ ≠ qh ∧ k_ ≠ qi ∧ k_ ≠ qj ∧ k_ ≠ qq) u3 x3_1) := ⟨by exact Kd.S_mono (Kd.S_far (p := ⟨qj, 1, none⟩) (Kd.S_mono HO_3.out (fun k_ hk => (⟨hk, hk.1.2.2.2.2.2.1⟩ : _ ∧ k_ ≠ qj))) (fun _ hk => hk.2) (.slice qbe qay.length qbb)) (fun _ hk => ⟨hk.1.1.1, ⟨hk.1.1.2.1, ⟨hk.1.1.2.2.1, ⟨hk.1.2, ⟨hk.1.1.2.2.2.1, ⟨hk.1.1.2.2.2.2.1, ⟨hk.1.1.2.2.2.2.2.1, hk.1.1.2.2.2.2.2.2⟩⟩⟩⟩⟩⟩⟩)⟩
             have n1_ : Aside0 (Kd.R k44 44 (w50.setCell ⟨qj, 1, none⟩ (.slice qbe qay.length qbb)) w.heap.size (fun k_ => some k_ ≠ (.slice qbe qay.length qbb : Value).ownBlock) (.slice qm qb.length qn) qb) := ⟨by exact Kd.R_mono (Kd.R_far (p := ⟨qj, 1, none⟩) (Kd.R_types qe.out ql.out (by decide)) (fun _ hk => hk.2) (.slice qbe qay.length qbb)) (fun _ hk => hk.1.2)⟩
             have n2_ : Aside0 (Kd.R k46 46 (w50.setCell ⟨qj, 1, none⟩ (.slice qbe qay.length qbb)) w.heap.size (fun k_ => some k_ ≠ (.slice qao qaa.length qan : Value).ownBlock) (.slice qp qc.length qo) qc) := ⟨by exact Kd.R_mono (Kd.R_far (p := ⟨qj, 1, none⟩) (Kd.R_types qf.out ql.out (by decide)) (fun _ hk => hk.2) (.slice qbe qay.length qbb)) (fun _ hk => hk.1)⟩
             have n3_ : Aside0 (Kd.R k46 46 (w50.setCell ⟨qj, 1, none⟩ (.slice qbe qay.length qbb)) w.heap.size (fun k_ => some k_ ≠ (.slice qp qc.length qo : Value).ownBlock) (.slice qao qaa.length qan) qaa) := ⟨by exact Kd.R_mono (Kd.R_far (p := ⟨qj, 1, none⟩) (Kd.R_types qz.out ql.out (by decide)) (fun _ hk => hk.2) (.slice qbe qay.length qbb)) (fun _ hk => hk.1)⟩
             have n4_ : Aside0 (Kd.R k44 44 (w50.setCell ⟨qj, 1, none⟩ (.slice qbe qay.length qbb)) w.heap.size (fun k_ => some k_ ≠ (.slice qm qb.length qn : Value).ownBlock) (.slice qbe qay.length qbb) qay) := ⟨by exact Kd.R_mono (Kd.R_far (p := ⟨qj, 1, none⟩) (Kd.R_types qbg.out ql.out (by decide)) (fun _ hk => hk.2) (.slice qbe qay.length qbb)) (fun _ hk => hk.1)⟩
             have n5_ : Aside0 ((w50.setCell ⟨qj, 1, none⟩ (.slice qbe qay.length qbb)).heap[qh]? = some (.cells #[.bool true, .slice (some ad219) l0_1.length c0_1, .slice A0_2 l0_2.length c0_2] 25 (0, 0))) := ⟨by refine blk_far ?_ qs.out _; exact qd.out⟩
             have n6_ : Aside0 ((w50.setCell ⟨qj, 1, none⟩ (.slice qbe qay.length qbb)).heap[qi]? = some (.cells #[.bool qk, .slice qm qb.length qn, .slice qp qc.length qo] 25 (0, 0))) := ⟨by refine blk_far ?_ qt.out _; exact qg.out⟩
             have n7_ : Aside0 ((w50.setCell ⟨qj, 1, none⟩ (.slice qbe qay.length qbb)).heap[qj]? = some (.cells #[.bool true, .slice qbe qay.length qbb, .slice qao qaa.length qan] 25 (0, 0))) := ⟨by refine blk_put (cs := #[.bool true, .slice qam qx.length qal, .slice qao qaa.length qan]) ?_ 1 _ rfl; exact ql.out⟩
             have n8_ : Aside0 ((w50.setCell ⟨qj, 1, none⟩ (.slice qbe qay.length qbb)).heap[qq]? = some (.cells #[.bool true, .slice none 0 0, .slice none 0 0] 25 (0, 0))) := ⟨by refine blk_far ?_ qbf.out _; exact qr.out⟩
             have n9_ : Aside0 (Below w.heap.size w (w50.setCell ⟨qj, 1, none⟩ (.slice qbe qay.length qbb))) := ⟨by repeat (((with_reducible first | exact HB.out | refine below_set ?_ qai.out )))⟩
             (try clear HO_3)
             (try clear qe)
             (try clear qf)
             (try clear qz)
             (try clear qbg)
             (try clear qd)
             (try clear qg)
             (try clear ql)
             (try clear qr)
             (try clear HB)
             generalize (w50.setCell ⟨qj, 1, none⟩ (.slice qbe qay.length qbb)) = w53 at n0_ n1_ n2_ n3_ n4_ n5_ n6_ n7_ n8_ n9_ ⊢
             have HO_3 := n0_
             have qe := n1_
             have qf := n2_
             have qz := n3_
             have qbg := n4_
             have qd := n5_
             have qg := n6_
             have ql := n7_
             have qr := n8_
             have HB := n9_
             clear n0_ n1_ n2_ n3_ n4_ n5_ n6_ n7_ n8_ n9_
             have n0_ := Aside0.mk (Kd.S_drew HO_3.out)
             have n1_ := Aside0.mk (Kd.R_drew qe.out)
             have n2_ := Aside0.mk (Kd.R_drew qf.out)
             have n3_ := Aside0.mk (Kd.R_drew qz.out)
             have n4_ := Aside0.mk (Kd.R_drew qbg.out)
             have n5_ := Aside0.mk (blk_drew qd.out)
             have n6_ := Aside0.mk (blk_drew qg.out)
             have n7_ := Aside0.mk (blk_drew ql.out)
             have n8_ := Aside0.mk (blk_drew qr.out)
             have n9_ := Aside0.mk (below_drew1 HB.out)
             clear HO_3 qe qf qz qbg qd qg ql qr HB
             have HO_3 := n0_
             have qe := n1_
             have qf := n2_
             have qz := n3_
             have qbg := n4_
             have qd := n5_
             have qg := n6_
             have ql := n7_
             have qr := n8_
             have HB := n9_
             clear n0_ n1_ n2_ n3_ n4_ n5_ n6_ n7_ n8_ n9_
             have p223 : 0 ≤ (x5_1 : Int) := of_decide_eq_true (by ((with_reducible assumption)))
             have q223 : x5_1 < (l0_1.length : Int) := of_decide_eq_true (by ((with_reducible assumption)))
             obtain ⟨ad223, e223, hx223_0, hx223_1⟩ := at_T44 HR0_1.out x5_1 p223 q223
             have hw223_1 := hx223_1
             have hw223_0 := hx223_0
             obtain rfl : ad219 = ad223 := (by injection e223)
             replace hx223_0 := (HB.out.cell (World.block_lt_of_cell? w _ hx223_0)).trans hx223_0
             replace hx223_1 := (HB.out.cell (World.block_lt_of_cell? w _ hx223_1)).trans hx223_1
             replace p223 := eq_true p223
             replace q223 := eq_true q223
             refine start_ (n := 11) (S := fun w' => w'.cell? ⟨qq, 0, none⟩ = some (.bool true) ∧ w'.cell? ⟨qq, 1, none⟩ = some (.slice none 0 0) ∧ w'.cell? ⟨qq, 2, none⟩ = some (.slice none 0 0) ∧ w'.cell? ⟨qh, 0, none⟩ = some (.bool true) ∧ w'.cell? ⟨qh, 1, none⟩ = some (.slice (some ad219) l0_1.length c0_1) ∧ w'.cell? ⟨qh, 2, none⟩ = some (.slice A0_2 l0_2.length c0_2) ∧ w'.cell? (ad219.add ((x5_1).toNat * 2)) = some (.string ((rd_T44 l0_1 x5_1).f0)) ∧ w'.cell? ⟨(ad219.add ((x5_1).toNat * 2)).block, (ad219.add ((x5_1).toNat * 2)).off + 1, none⟩ = some (.string ((rd_T44 l0_1 x5_1).f1))) (ds := [10]) #[false, false, false, false, false, false, false, false, false, false, false] (by kernel_rfl) rfl rfl ⟨(blk_cell qr.out 0).trans rfl, (blk_cell qr.out 1).trans rfl, (blk_cell qr.out 2).trans rfl, (blk_cell qd.out 0).trans rfl, (blk_cell qd.out 1).trans rfl, (blk_cell qd.out 2).trans rfl, ((HB.out.cell (World.block_lt_of_cell? w _ hw223_0)).trans hw223_0), ((HB.out.cell (World.block_lt_of_cell? w _ hw223_1)).trans hw223_1)⟩ (fun hHeld => ?_); refine with_tabW coppiceref06_Split.tab12 coppiceref06_Split.bits12 (fun HT_ HW_ => ?_)
             generalize w53.drew = w54 at HO_3 qe qf qz qbg qd qg ql qr HB hx223_0 hx223_1 hHeld ⊢
             refine pure_ (i := 0) (N := some 51) (v := ?_) (a' := ?_) #[true, false, false, false, false, false, false, false, false, false, false] rfl rfl (any_of HT_.out (by kernel_rfl)) (fun _ _ _ h => h) (Or.inl ⟨by rfl, ?_⟩) ?_ ?_
             rotate_left
             ·intro w'
              go_simp
              with_reducible rfl
             rotate_left
             ·simp only [Act.put, List.setIfInBounds_toArray, List.set_cons_zero, List.set_cons_succ, i64_w, i32_w]
              rfl
             refine pure_ (i := 2) (N := some 53) (v := ?_) (a' := ?_) #[true, false, true, false, false, false, false, false, false, false, false] rfl rfl (any_of HT_.out (by kernel_rfl)) (fun _ _ _ h => h) (Or.inl ⟨by rfl, ?_⟩) ?_ ?_
             rotate_left
             ·intro w'
              go_simp
              with_reducible rfl
             rotate_left
             ·simp only [Act.put, List.setIfInBounds_toArray, List.set_cons_zero, List.set_cons_succ, i64_w, i32_w]
              rfl
             refine pure_ (i := 4) (N := some 55) (v := ?_) (a' := ?_) #[true, false, true, false, true, false, false, false, false, false, false] rfl rfl (any_of HT_.out (by kernel_rfl)) (fun _ _ _ h => h) (Or.inl ⟨by rfl, ?_⟩) ?_ ?_
             rotate_left
             ·intro w'
              go_simp
              with_reducible rfl
             rotate_left
             ·simp only [Act.put, List.setIfInBounds_toArray, List.set_cons_zero, List.set_cons_succ, i64_w, i32_w]
              rfl
             refine take_ (i := 1) (N := some 52) (v := ?_) (a' := ?_) #[true, true, true, false, true, false, false, false, false, false, false] rfl rfl (take_ofW HT_.out HW_.out (by kernel_rfl)) (fun _ _ _ h => h) (Or.inl ⟨by rfl, ?_⟩) hHeld ?_ ?_
             rotate_left
             ·rintro w' ⟨s0, s1, s2, s3, s4, s5, s6, s7⟩
              go_simp
              with_reducible rfl
             rotate_left
             ·simp only [Act.put, List.setIfInBounds_toArray, List.set_cons_zero, List.set_cons_succ, i64_w, i32_w]
              rfl
             refine take_ (i := 3) (N := some 54) (v := ?_) (a' := ?_) #[true, true, true, true, true, false, false, false, false, false, false] rfl rfl (take_ofW HT_.out HW_.out (by kernel_rfl)) (fun _ _ _ h => h) (Or.inl ⟨by rfl, ?_⟩) hHeld ?_ ?_
             rotate_left
             ·rintro w' ⟨s0, s1, s2, s3, s4, s5, s6, s7⟩
              go_simp
              with_reducible rfl
             rotate_left
             ·simp only [Act.put, List.setIfInBounds_toArray, List.set_cons_zero, List.set_cons_succ, i64_w, i32_w]
              rfl
             refine pure_ (i := 5) (N := some 56) (v := ?_) (a' := ?_) #[true, true, true, true, true, true, false, false, false, false, false] rfl rfl (any_of HT_.out (by kernel_rfl)) (fun _ _ _ h => h) (Or.inl ⟨by rfl, ?_⟩) ?_ ?_
             rotate_left
             ·intro w'
              go_simp
              with_reducible rfl
             rotate_left
             ·simp only [Act.put, List.setIfInBounds_toArray, List.set_cons_zero, List.set_cons_succ, i64_w, i32_w]
              rfl
             refine take_ (i := 6) (N := some 57) (v := ?_) (a' := ?_) #[true, true, true, true, true, true, true, false, false, false, false] rfl rfl (take_ofW HT_.out HW_.out (by kernel_rfl)) (fun _ _ _ h => h) (Or.inl ⟨by rfl, ?_⟩) hHeld ?_ ?_
             rotate_left
             ·rintro w' ⟨s0, s1, s2, s3, s4, s5, s6, s7⟩
              go_simp
              with_reducible rfl
             rotate_left
             ·simp only [Act.put, List.setIfInBounds_toArray, List.set_cons_zero, List.set_cons_succ, i64_w, i32_w]
              rfl
             refine one_ (i := 7) (N := some 58) #[true, true, true, true, true, true, true, true, false, false, false] rfl rfl (one_of HT_.out (by kernel_rfl)) (by decide) (fun K hK => ?_)
             refine value_ (w1 := ?_) (v := ?_) (by rfl) rfl ?_ ?_
             rotate_left 2
             ·go_simp
              constructor
              ·rfl
              ·rfl
             refine hK.out _ _ ⟨(blk_cell (blk_alloc qr.out _) 0).trans rfl, (blk_cell (blk_alloc qr.out _) 1).trans rfl, (blk_cell (blk_alloc qr.out _) 2).trans rfl, (blk_cell (blk_alloc qd.out _) 0).trans rfl, (blk_cell (blk_alloc qd.out _) 1).trans rfl, (blk_cell (blk_alloc qd.out _) 2).trans rfl, (World.cell?_alloc_lt _ _ _ (World.block_lt_of_cell? _ _ (((HB.out.cell (World.block_lt_of_cell? w _ hw223_0)).trans hw223_0)))).trans (((HB.out.cell (World.block_lt_of_cell? w _ hw223_0)).trans hw223_0)), (World.cell?_alloc_lt _ _ _ (World.block_lt_of_cell? _ _ (((HB.out.cell (World.block_lt_of_cell? w _ hw223_1)).trans hw223_1)))).trans (((HB.out.cell (World.block_lt_of_cell? w _ hw223_1)).trans hw223_1))⟩ (fun hHeld => ?_)
             clear hK K
             refine norm_ (a' := ?_) ?_ ?_
             rotate_left
             ·show Act.put _ (some 58) _ = _
              simp only [Act.put, List.setIfInBounds_toArray, List.set_cons_zero, List.set_cons_succ, i64_w, i32_w]
              rfl
             refine one_ (i := 8) (N := some 59) #[true, true, true, true, true, true, true, true, true, false, false] rfl rfl (one_of HT_.out (by kernel_rfl)) (by decide) (fun K hK => ?_)
             refine Kd.R_append_step k44 (w0 := w) w.heap.size (by rfl) (.tmp 52) (.tmp 58) 22 44 (.agg #[(.string ⟨#[]⟩), (.string ⟨#[]⟩)]) 32 rfl Try.underlying22 info44 rfl (by decide) (by omega) (.slice none 0 0) ([] : List (S44)) (⟨(rd_T44 l0_1 x5_1).f0, (rd_T44 l0_1 x5_1).f1⟩ : S44) [.string ((rd_T44 l0_1 x5_1).f0), .string ((rd_T44 l0_1 x5_1).f1)] (fun k_ => some k_ ≠ (.slice qm qb.length qn : Value).ownBlock ∧ some k_ ≠ (.slice qbe qay.length qbb : Value).ownBlock) (fun _ => False) rfl rfl ?aP (fun _ hk => hk.elim) ?aF ?aO ?aB ?aS ?aL ?_
             (case aP => exact k44_mkM _ _ _ (⟨(rd_T44 l0_1 x5_1).f0, (rd_T44 l0_1 x5_1).f1⟩ : S44))
             (case aB => exact (by repeat (((with_reducible (exact HB.out))))))
             (case aF => exact (fun k_ hk => ⟨Kd.fresh' (Kd.R_lt (by exact qe.out)) k_ hk, Kd.fresh' (Kd.R_lt (by exact qbg.out)) k_ hk⟩))
             (case aO => exact ((Kd.R_nil _ _ _ _ (fun k_ => some k_ ≠ (.slice qm qb.length qn : Value).ownBlock ∧ some k_ ≠ (.slice qbe qay.length qbb : Value).ownBlock))))
             (case aS => exact (below_size (by repeat (((with_reducible (exact HB.out)))))))
             (case aL => have := qea.out; omega)
             intro qfa w55 ho hb hg hat
             rw [← qdw.out] at ho
             have n0_ := Aside0.mk (Kd.S_after (Kd.S_apart_nil (by exact HO_3.out)) hg hat)
             have n1_ := Aside0.mk (Kd.R_after (Kd.R_apart_nil (by exact qe.out)) hg hat)
             have n2_ := Aside0.mk (Kd.R_grown (by exact qf.out) hg (fun _ _ => by simp [Value.ownBlock]))
             have n3_ := Aside0.mk (blk_grown (g := qh) (o := .cells #[.bool true, .slice (some ad219) l0_1.length c0_1, .slice A0_2 l0_2.length c0_2] 25 (0, 0)) (by exact qd.out) hg (by simp [Value.ownBlock]))
             have n4_ := Aside0.mk (blk_grown (g := qi) (o := .cells #[.bool qk, .slice qm qb.length qn, .slice qp qc.length qo] 25 (0, 0)) (by exact qg.out) hg (by simp [Value.ownBlock]))
             have n5_ := Aside0.mk (Kd.R_grown (by exact qz.out) hg (fun _ _ => by simp [Value.ownBlock]))
             have n6_ := Aside0.mk (blk_grown (g := qj) (o := .cells #[.bool true, .slice qbe qay.length qbb, .slice qao qaa.length qan] 25 (0, 0)) (by exact ql.out) hg (by simp [Value.ownBlock]))
             have n7_ := Aside0.mk (blk_grown (g := qq) (o := .cells #[.bool true, .slice none 0 0, .slice none 0 0] 25 (0, 0)) (by exact qr.out) hg (by simp [Value.ownBlock]))
             have n8_ := Aside0.mk (Kd.R_after (Kd.R_apart_nil (by exact qbg.out)) hg hat)
             have n9_ := Aside0.mk (hb)
             have n10_ := Aside0.mk (ho)
             clear HO_3 qe qf qd qg qz ql qr qbg HB
             have HO_3 := n0_
             have qe := n1_
             have qf := n2_
             have qd := n3_
             have qg := n4_
             have qz := n5_
             have ql := n6_
             have qr := n7_
             have qbg := n8_
             have HB := n9_
             have qdp := n10_
             clear n0_ n1_ n2_ n3_ n4_ n5_ n6_ n7_ n8_ n9_ n10_ ho hb hg hat
             obtain ⟨qcd, qcc, qej⟩ := Kd.R_slice qdp.out
             ((subst qej))
             refine hK.out _ _ ⟨(blk_cell qr.out 0).trans rfl, (blk_cell qr.out 1).trans rfl, (blk_cell qr.out 2).trans rfl, (blk_cell qd.out 0).trans rfl, (blk_cell qd.out 1).trans rfl, (blk_cell qd.out 2).trans rfl, ((HB.out.cell (World.block_lt_of_cell? w _ hw223_0)).trans hw223_0), ((HB.out.cell (World.block_lt_of_cell? w _ hw223_1)).trans hw223_1)⟩ (fun hHeld => ?_)
             clear hK K
             refine norm_ (a' := ?_) ?_ ?_
             rotate_left
             ·show Act.put _ (some 59) _ = _
              simp only [Act.put, List.setIfInBounds_toArray, List.set_cons_zero, List.set_cons_succ, i64_w, i32_w]
              rfl
             refine pure_ (i := 9) (N := some 60) (v := ?_) (a' := ?_) #[true, true, true, true, true, true, true, true, true, true, false] rfl rfl (any_of HT_.out (by kernel_rfl)) (fun _ _ _ h => h) (Or.inl ⟨by rfl, ?_⟩) ?_ ?_
             rotate_left
             ·intro w'
              go_simp
              with_reducible rfl
             rotate_left
             ·simp only [Act.put, List.setIfInBounds_toArray, List.set_cons_zero, List.set_cons_succ, i64_w, i32_w]
              rfl
             refine last_ (i := 10) (N := none) #[true, true, true, true, true, true, true, true, true, true, true] rfl rfl (one_of HT_.out (by kernel_rfl)) (by decide) (fun K hK => ?_)
             have hs57 : w55.cell? ⟨qq, 1, none⟩ = some (.slice none 0 0) := (blk_cell qr.out 1).trans rfl
             have hfs57 := blk_frozen qr.out 1
             have hns57_0 := qaw.out
             have hns57_1 := qas.out
             have hns57_2 := qak.out
             have hms57_0 := qbn.out
             have hms57_1 := qbm.out
             have hms57_2 := qbf.out
             refine skip_ (w1 := ?_) (by rfl) rfl ?_ ?_
             rotate_left
             ·go_simp
              rfl
             refine hK.out _ _ ?_
             clear hK K
             refine done_ (done_of HT_.out (by kernel_rfl)) ?_
             try go_wp2
             go_meet
             case rel => exact ⟨_, (qay), (qaa), (qbu), (([] : List (S46))), (.slice qbe qay.length qbb), (.slice qao qaa.length qan), (.slice qcd qbu.length qcc), (.slice none 0 0), H', ⟨by have := HK1.out; (omega)⟩, ⟨by exact Kd.S_mono (Kd.S_far (p := ⟨qq, 1, none⟩) (Kd.S_mono HO_3.out (fun k_ hk => (⟨hk, hk.1.2.2.2.2.2.2.2⟩ : _ ∧ k_ ≠ qq))) (fun _ hk => hk.2) (.slice qcd qbu.length qcc)) (fun _ hk => ⟨hk.1.1.1, ⟨hk.1.1.2.1, ⟨hk.1.1.2.2.2.1, ⟨hk.1.1.2.2.1, ⟨hk.1.2, ⟨(by simp [Value.ownBlock]), ⟨hk.1.1.2.2.2.2.1, ⟨hk.1.1.2.2.2.2.2.1, ⟨hk.1.1.2.2.2.2.2.2.1, hk.1.1.2.2.2.2.2.2.2⟩⟩⟩⟩⟩⟩⟩⟩⟩)⟩, ⟨by exact Kd.R_mono (Kd.R_far (p := ⟨qq, 1, none⟩) (Kd.R_types qe.out qr.out (by decide)) (fun _ hk => hk.2) (.slice qcd qbu.length qcc)) (fun _ hk => ⟨hk.1.1, hk.1.2⟩)⟩, ⟨by exact Kd.R_mono (Kd.R_far (p := ⟨qq, 1, none⟩) (Kd.R_types qf.out qr.out (by decide)) (fun _ hk => hk.2) (.slice qcd qbu.length qcc)) (fun _ hk => ⟨hk.1, (by simp [Value.ownBlock])⟩)⟩, ⟨by exact Kd.R_mono (Kd.R_far (p := ⟨qq, 1, none⟩) (Kd.R_types qbg.out qr.out (by decide)) (fun _ hk => hk.2) (.slice qcd qbu.length qcc)) (fun _ hk => ⟨hk.1.1, hk.1.2⟩)⟩, ⟨by exact Kd.R_mono (Kd.R_far (p := ⟨qq, 1, none⟩) (Kd.R_types qz.out qr.out (by decide)) (fun _ hk => hk.2) (.slice qcd qbu.length qcc)) (fun _ hk => ⟨hk.1, (by simp [Value.ownBlock])⟩)⟩, ⟨by exact Kd.R_mono (Kd.R_far (p := ⟨qq, 1, none⟩) (Kd.R_types qdp.out qr.out (by decide)) (fun _ hk => hk.2) (.slice qcd qbu.length qcc)) (fun _ hk => ⟨hk.1.1, hk.1.2⟩)⟩, ⟨by (exact Kd.R_nil _ _ _ _ _)⟩, ⟨by refine blk_far ?_ qaw.out _; exact qd.out⟩, ⟨by refine blk_far ?_ qas.out _; exact qg.out⟩, ⟨by refine blk_far ?_ qak.out _; exact ql.out⟩, ⟨by refine blk_put (cs := #[.bool true, .slice none 0 0, .slice none 0 0]) ?_ 1 _ rfl; exact qr.out⟩, ⟨by repeat (((with_reducible first | exact HB.out | refine below_set ?_ qcl.out)))⟩⟩
            ·rw [if_neg c47] at H
             exact absurd H (by simp)
           ·rw [if_neg c46] at H
            exact absurd H (by simp)
          ·rw [if_neg c45] at H
           exact absurd H (by simp)
         ·rw [if_neg c44] at H
          exact absurd H (by simp)
        ·replace c43 := Bool.eq_false_iff.mpr c43
         subst c43
         have H1 : (if 0 ≤ x5_1 then (if x5_1 < (l0_2.length : Int) then (if qaa.length < 5864062014805 then (if ([] : List (S46)).length < 5864062014805 then (coppiceref06_Split.j1 k1 x3_1 x5_1 false l0_1 l0_2 qk qb qc false qx (qaa ++ [(⟨(rd_T46 l0_2 x5_1).f0, (rd_T46 l0_2 x5_1).f1⟩ : S46)]) false ([] : List (S44)) (([] : List (S46)) ++ [(⟨(rd_T46 l0_2 x5_1).f0, (rd_T46 l0_2 x5_1).f1⟩ : S46)])) else (none)) else (none)) else (none)) else (none)) = some r := by rw [if_neg (show ¬ (false = true) by decide)] at H; exact H
         clear H
         have H := H1
         clear H1
         by_cases c58 : 0 ≤ x5_1
         ·rw [if_pos c58] at H
          have c58b0 : decide (0 ≤ x5_1) = true := decide_eq_true c58
          clear c58
          by_cases c59 : x5_1 < (l0_2.length : Int)
          ·rw [if_pos c59] at H
           have c59b0 : decide (x5_1 < (l0_2.length : Int)) = true := decide_eq_true c59
           clear c59
           by_cases c60 : qaa.length < 5864062014805
           ·rw [if_pos c60] at H
            have qed := Aside0.mk c60
            clear c60
            obtain ⟨qax, qda⟩ : ∃ y_ : List (S46), y_ = (qaa ++ [(⟨(rd_T46 l0_2 x5_1).f0, (rd_T46 l0_2 x5_1).f1⟩ : S46)]) := ⟨_, rfl⟩
            replace H : (if ([] : List (S46)).length < 5864062014805 then (coppiceref06_Split.j1 k1 x3_1 x5_1 false l0_1 l0_2 qk qb qc false qx qax false ([] : List (S44)) (([] : List (S46)) ++ [(⟨(rd_T46 l0_2 x5_1).f0, (rd_T46 l0_2 x5_1).f1⟩ : S46)])) else (none)) = some r := by ((rw [qda]; with_reducible exact H))
            have qee := Aside0.mk qda
            clear qda
            by_cases c61 : ([] : List (S46)).length < 5864062014805
            ·rw [if_pos c61] at H
             have qdv := Aside0.mk c61
             clear c61
             obtain ⟨qbv, qdd⟩ : ∃ y_ : List (S46), y_ = (([] : List (S46)) ++ [(⟨(rd_T46 l0_2 x5_1).f0, (rd_T46 l0_2 x5_1).f1⟩ : S46)]) := ⟨_, rfl⟩
             replace H : (coppiceref06_Split.j1 k1 x3_1 x5_1 false l0_1 l0_2 qk qb qc false qx qax false ([] : List (S44)) qbv) = some r := by ((rw [qdd]; with_reducible exact H))
             have qdy := Aside0.mk qdd
             clear qdd
             have H' := Aside0.mk H
             clear H
             try go_wp2
             have n0_ : Aside0 (Kd.S k25 25 (((w37.setCell ⟨qq, 0, none⟩ (.bool false)).setCell ⟨qq, 1, none⟩ (.slice none 0 0)).setCell ⟨qq, 2, none⟩ (.slice none 0 0)) w.heap.size (fun k_ => some k_ ≠ (.slice qm qb.length qn : Value).ownBlock ∧ some k_ ≠ (.slice qp qc.length qo : Value).ownBlock ∧ some k_ ≠ (.slice qam qx.length qal : Value).ownBlock ∧ some k_ ≠ (.slice qao qaa.length qan : Value).ownBlock ∧ k_ ≠ qh ∧ k_ ≠ qi ∧ k_ ≠ qj ∧ k_ ≠ qq) u3 x3_1) := ⟨by exact Kd.S_mono (Kd.S_far (p := ⟨qq, 2, none⟩) (Kd.S_far (p := ⟨qq, 1, none⟩) (Kd.S_far (p := ⟨qq, 0, none⟩) (Kd.S_mono HO_3.out (fun k_ hk => (⟨hk, hk.2⟩ : _ ∧ k_ ≠ qq))) (fun _ hk => hk.2) (.bool false)) (fun _ hk => hk.2) (.slice none 0 0)) (fun _ hk => hk.2) (.slice none 0 0)) (fun _ hk => ⟨hk.1.1.2.2.1, ⟨hk.1.1.2.2.2.1, ⟨hk.1.1.1, ⟨hk.1.1.2.1, ⟨hk.1.1.2.2.2.2.1, ⟨hk.1.1.2.2.2.2.2.1, ⟨hk.1.1.2.2.2.2.2.2, hk.1.2⟩⟩⟩⟩⟩⟩⟩)⟩
             have n1_ : Aside0 (Kd.R k44 44 (((w37.setCell ⟨qq, 0, none⟩ (.bool false)).setCell ⟨qq, 1, none⟩ (.slice none 0 0)).setCell ⟨qq, 2, none⟩ (.slice none 0 0)) w.heap.size (fun k_ => some k_ ≠ (.slice qam qx.length qal : Value).ownBlock) (.slice qm qb.length qn) qb) := ⟨by exact Kd.R_mono (Kd.R_far (p := ⟨qq, 2, none⟩) (Kd.R_far (p := ⟨qq, 1, none⟩) (Kd.R_far (p := ⟨qq, 0, none⟩) (Kd.R_types qe.out qr.out (by decide)) (fun _ hk => hk.2) (.bool false)) (fun _ hk => hk.2) (.slice none 0 0)) (fun _ hk => hk.2) (.slice none 0 0)) (fun _ hk => hk.1)⟩
             have n2_ : Aside0 (Kd.R k46 46 (((w37.setCell ⟨qq, 0, none⟩ (.bool false)).setCell ⟨qq, 1, none⟩ (.slice none 0 0)).setCell ⟨qq, 2, none⟩ (.slice none 0 0)) w.heap.size (fun k_ => some k_ ≠ (.slice qao qaa.length qan : Value).ownBlock) (.slice qp qc.length qo) qc) := ⟨by exact Kd.R_mono (Kd.R_far (p := ⟨qq, 2, none⟩) (Kd.R_far (p := ⟨qq, 1, none⟩) (Kd.R_far (p := ⟨qq, 0, none⟩) (Kd.R_types qf.out qr.out (by decide)) (fun _ hk => hk.2) (.bool false)) (fun _ hk => hk.2) (.slice none 0 0)) (fun _ hk => hk.2) (.slice none 0 0)) (fun _ hk => hk.1)⟩
             have n3_ : Aside0 (Kd.R k44 44 (((w37.setCell ⟨qq, 0, none⟩ (.bool false)).setCell ⟨qq, 1, none⟩ (.slice none 0 0)).setCell ⟨qq, 2, none⟩ (.slice none 0 0)) w.heap.size (fun k_ => some k_ ≠ (.slice qm qb.length qn : Value).ownBlock) (.slice qam qx.length qal) qx) := ⟨by exact Kd.R_mono (Kd.R_far (p := ⟨qq, 2, none⟩) (Kd.R_far (p := ⟨qq, 1, none⟩) (Kd.R_far (p := ⟨qq, 0, none⟩) (Kd.R_types qu.out qr.out (by decide)) (fun _ hk => hk.2) (.bool false)) (fun _ hk => hk.2) (.slice none 0 0)) (fun _ hk => hk.2) (.slice none 0 0)) (fun _ hk => hk.1)⟩
             have n4_ : Aside0 (Kd.R k46 46 (((w37.setCell ⟨qq, 0, none⟩ (.bool false)).setCell ⟨qq, 1, none⟩ (.slice none 0 0)).setCell ⟨qq, 2, none⟩ (.slice none 0 0)) w.heap.size (fun k_ => some k_ ≠ (.slice qp qc.length qo : Value).ownBlock) (.slice qao qaa.length qan) qaa) := ⟨by exact Kd.R_mono (Kd.R_far (p := ⟨qq, 2, none⟩) (Kd.R_far (p := ⟨qq, 1, none⟩) (Kd.R_far (p := ⟨qq, 0, none⟩) (Kd.R_types qz.out qr.out (by decide)) (fun _ hk => hk.2) (.bool false)) (fun _ hk => hk.2) (.slice none 0 0)) (fun _ hk => hk.2) (.slice none 0 0)) (fun _ hk => hk.1)⟩
             have n5_ : Aside0 ((((w37.setCell ⟨qq, 0, none⟩ (.bool false)).setCell ⟨qq, 1, none⟩ (.slice none 0 0)).setCell ⟨qq, 2, none⟩ (.slice none 0 0)).heap[qh]? = some (.cells #[.bool false, .slice A0_1 l0_1.length c0_1, .slice A0_2 l0_2.length c0_2] 25 (0, 0))) := ⟨by refine blk_far ?_ qaw.out _; refine blk_far ?_ qaw.out _; refine blk_far ?_ qaw.out _; exact qd.out⟩
             have n6_ : Aside0 ((((w37.setCell ⟨qq, 0, none⟩ (.bool false)).setCell ⟨qq, 1, none⟩ (.slice none 0 0)).setCell ⟨qq, 2, none⟩ (.slice none 0 0)).heap[qi]? = some (.cells #[.bool qk, .slice qm qb.length qn, .slice qp qc.length qo] 25 (0, 0))) := ⟨by refine blk_far ?_ qas.out _; refine blk_far ?_ qas.out _; refine blk_far ?_ qas.out _; exact qg.out⟩
             have n7_ : Aside0 ((((w37.setCell ⟨qq, 0, none⟩ (.bool false)).setCell ⟨qq, 1, none⟩ (.slice none 0 0)).setCell ⟨qq, 2, none⟩ (.slice none 0 0)).heap[qj]? = some (.cells #[.bool false, .slice qam qx.length qal, .slice qao qaa.length qan] 25 (0, 0))) := ⟨by refine blk_far ?_ qak.out _; refine blk_far ?_ qak.out _; refine blk_far ?_ qak.out _; exact ql.out⟩
             have n8_ : Aside0 ((((w37.setCell ⟨qq, 0, none⟩ (.bool false)).setCell ⟨qq, 1, none⟩ (.slice none 0 0)).setCell ⟨qq, 2, none⟩ (.slice none 0 0)).heap[qq]? = some (.cells #[.bool false, .slice none 0 0, .slice none 0 0] 25 (0, 0))) := ⟨by refine blk_put (cs := #[.bool false, .slice none 0 0, .slice none 0 0]) ?_ 2 _ rfl; refine blk_put (cs := #[.bool false, .slice none 0 0, .slice none 0 0]) ?_ 1 _ rfl; refine blk_put (cs := #[.bool false, .slice none 0 0, .slice none 0 0]) ?_ 0 _ rfl; exact qr.out⟩
             have n9_ : Aside0 (Below w.heap.size w (((w37.setCell ⟨qq, 0, none⟩ (.bool false)).setCell ⟨qq, 1, none⟩ (.slice none 0 0)).setCell ⟨qq, 2, none⟩ (.slice none 0 0))) := ⟨by repeat (((with_reducible first | exact HB.out | refine below_set ?_ qcl.out)))⟩
             (try clear HO_3)
             (try clear qe)
             (try clear qf)
             (try clear qu)
             (try clear qz)
             (try clear qd)
             (try clear qg)
             (try clear ql)
             (try clear qr)
             (try clear HB)
             generalize (((w37.setCell ⟨qq, 0, none⟩ (.bool false)).setCell ⟨qq, 1, none⟩ (.slice none 0 0)).setCell ⟨qq, 2, none⟩ (.slice none 0 0)) = w62 at n0_ n1_ n2_ n3_ n4_ n5_ n6_ n7_ n8_ n9_ ⊢
             have HO_3 := n0_
             have qe := n1_
             have qf := n2_
             have qu := n3_
             have qz := n4_
             have qd := n5_
             have qg := n6_
             have ql := n7_
             have qr := n8_
             have HB := n9_
             clear n0_ n1_ n2_ n3_ n4_ n5_ n6_ n7_ n8_ n9_
             have n0_ := Aside0.mk (Kd.S_drew HO_3.out)
             have n1_ := Aside0.mk (Kd.R_drew qe.out)
             have n2_ := Aside0.mk (Kd.R_drew qf.out)
             have n3_ := Aside0.mk (Kd.R_drew qu.out)
             have n4_ := Aside0.mk (Kd.R_drew qz.out)
             have n5_ := Aside0.mk (blk_drew qd.out)
             have n6_ := Aside0.mk (blk_drew qg.out)
             have n7_ := Aside0.mk (blk_drew ql.out)
             have n8_ := Aside0.mk (blk_drew qr.out)
             have n9_ := Aside0.mk (below_drew1 HB.out)
             clear HO_3 qe qf qu qz qd qg ql qr HB
             have HO_3 := n0_
             have qe := n1_
             have qf := n2_
             have qu := n3_
             have qz := n4_
             have qd := n5_
             have qg := n6_
             have ql := n7_
             have qr := n8_
             have HB := n9_
             clear n0_ n1_ n2_ n3_ n4_ n5_ n6_ n7_ n8_ n9_
             have p227 : 0 ≤ (x5_1 : Int) := of_decide_eq_true (by ((with_reducible assumption)))
             have q227 : x5_1 < (l0_2.length : Int) := of_decide_eq_true (by ((with_reducible assumption)))
             obtain ⟨ad227, e227, hx227_0, hx227_1⟩ := at_T46 HR0_2.out x5_1 p227 q227
             have hw227_1 := hx227_1
             have hw227_0 := hx227_0
             cases e227
             replace hx227_0 := (HB.out.cell (World.block_lt_of_cell? w _ hx227_0)).trans hx227_0
             replace hx227_1 := (HB.out.cell (World.block_lt_of_cell? w _ hx227_1)).trans hx227_1
             replace p227 := eq_true p227
             replace q227 := eq_true q227
             refine start_ (n := 11) (S := fun w' => w'.cell? ⟨qj, 0, none⟩ = some (.bool false) ∧ w'.cell? ⟨qj, 1, none⟩ = some (.slice qam qx.length qal) ∧ w'.cell? ⟨qj, 2, none⟩ = some (.slice qao qaa.length qan) ∧ w'.cell? ⟨qh, 0, none⟩ = some (.bool false) ∧ w'.cell? ⟨qh, 1, none⟩ = some (.slice A0_1 l0_1.length c0_1) ∧ w'.cell? ⟨qh, 2, none⟩ = some (.slice (some ad227) l0_2.length c0_2) ∧ w'.cell? (ad227.add ((x5_1).toNat * 2)) = some (.string ((rd_T46 l0_2 x5_1).f0)) ∧ w'.cell? ⟨(ad227.add ((x5_1).toNat * 2)).block, (ad227.add ((x5_1).toNat * 2)).off + 1, none⟩ = some (.int .i64 ((rd_T46 l0_2 x5_1).f1))) (ds := [10]) #[false, false, false, false, false, false, false, false, false, false, false] (by kernel_rfl) rfl rfl ⟨(blk_cell ql.out 0).trans rfl, (blk_cell ql.out 1).trans rfl, (blk_cell ql.out 2).trans rfl, (blk_cell qd.out 0).trans rfl, (blk_cell qd.out 1).trans rfl, (blk_cell qd.out 2).trans rfl, ((HB.out.cell (World.block_lt_of_cell? w _ hw227_0)).trans hw227_0), ((HB.out.cell (World.block_lt_of_cell? w _ hw227_1)).trans hw227_1)⟩ (fun hHeld => ?_); refine with_tabW coppiceref06_Split.tab13 coppiceref06_Split.bits13 (fun HT_ HW_ => ?_)
             generalize w62.drew = w63 at HO_3 qe qf qu qz qd qg ql qr HB hx227_0 hx227_1 hHeld ⊢
             refine pure_ (i := 0) (N := some 61) (v := ?_) (a' := ?_) #[true, false, false, false, false, false, false, false, false, false, false] rfl rfl (any_of HT_.out (by kernel_rfl)) (fun _ _ _ h => h) (Or.inl ⟨by rfl, ?_⟩) ?_ ?_
             rotate_left
             ·intro w'
              go_simp
              with_reducible rfl
             rotate_left
             ·simp only [Act.put, List.setIfInBounds_toArray, List.set_cons_zero, List.set_cons_succ, i64_w, i32_w]
              rfl
             refine pure_ (i := 2) (N := some 63) (v := ?_) (a' := ?_) #[true, false, true, false, false, false, false, false, false, false, false] rfl rfl (any_of HT_.out (by kernel_rfl)) (fun _ _ _ h => h) (Or.inl ⟨by rfl, ?_⟩) ?_ ?_
             rotate_left
             ·intro w'
              go_simp
              with_reducible rfl
             rotate_left
             ·simp only [Act.put, List.setIfInBounds_toArray, List.set_cons_zero, List.set_cons_succ, i64_w, i32_w]
              rfl
             refine pure_ (i := 4) (N := some 65) (v := ?_) (a' := ?_) #[true, false, true, false, true, false, false, false, false, false, false] rfl rfl (any_of HT_.out (by kernel_rfl)) (fun _ _ _ h => h) (Or.inl ⟨by rfl, ?_⟩) ?_ ?_
             rotate_left
             ·intro w'
              go_simp
              with_reducible rfl
             rotate_left
             ·simp only [Act.put, List.setIfInBounds_toArray, List.set_cons_zero, List.set_cons_succ, i64_w, i32_w]
              rfl
             refine take_ (i := 1) (N := some 62) (v := ?_) (a' := ?_) #[true, true, true, false, true, false, false, false, false, false, false] rfl rfl (take_ofW HT_.out HW_.out (by kernel_rfl)) (fun _ _ _ h => h) (Or.inl ⟨by rfl, ?_⟩) hHeld ?_ ?_
             rotate_left
             ·rintro w' ⟨s0, s1, s2, s3, s4, s5, s6, s7⟩
              go_simp
              with_reducible rfl
             rotate_left
             ·simp only [Act.put, List.setIfInBounds_toArray, List.set_cons_zero, List.set_cons_succ, i64_w, i32_w]
              rfl
             refine take_ (i := 3) (N := some 64) (v := ?_) (a' := ?_) #[true, true, true, true, true, false, false, false, false, false, false] rfl rfl (take_ofW HT_.out HW_.out (by kernel_rfl)) (fun _ _ _ h => h) (Or.inl ⟨by rfl, ?_⟩) hHeld ?_ ?_
             rotate_left
             ·rintro w' ⟨s0, s1, s2, s3, s4, s5, s6, s7⟩
              go_simp
              with_reducible rfl
             rotate_left
             ·simp only [Act.put, List.setIfInBounds_toArray, List.set_cons_zero, List.set_cons_succ, i64_w, i32_w]
              rfl
             refine pure_ (i := 5) (N := some 66) (v := ?_) (a' := ?_) #[true, true, true, true, true, true, false, false, false, false, false] rfl rfl (any_of HT_.out (by kernel_rfl)) (fun _ _ _ h => h) (Or.inl ⟨by rfl, ?_⟩) ?_ ?_
             rotate_left
             ·intro w'
              go_simp
              with_reducible rfl
             rotate_left
             ·simp only [Act.put, List.setIfInBounds_toArray, List.set_cons_zero, List.set_cons_succ, i64_w, i32_w]
              rfl
             refine take_ (i := 6) (N := some 67) (v := ?_) (a' := ?_) #[true, true, true, true, true, true, true, false, false, false, false] rfl rfl (take_ofW HT_.out HW_.out (by kernel_rfl)) (fun _ _ _ h => h) (Or.inl ⟨by rfl, ?_⟩) hHeld ?_ ?_
             rotate_left
             ·rintro w' ⟨s0, s1, s2, s3, s4, s5, s6, s7⟩
              go_simp
              with_reducible rfl
             rotate_left
             ·simp only [Act.put, List.setIfInBounds_toArray, List.set_cons_zero, List.set_cons_succ, i64_w, i32_w]
              rfl
             refine one_ (i := 7) (N := some 68) #[true, true, true, true, true, true, true, true, false, false, false] rfl rfl (one_of HT_.out (by kernel_rfl)) (by decide) (fun K hK => ?_)
             refine value_ (w1 := ?_) (v := ?_) (by rfl) rfl ?_ ?_
             rotate_left 2
             ·go_simp
              constructor
              ·rfl
              ·rfl
             refine hK.out _ _ ⟨(blk_cell (blk_alloc ql.out _) 0).trans rfl, (blk_cell (blk_alloc ql.out _) 1).trans rfl, (blk_cell (blk_alloc ql.out _) 2).trans rfl, (blk_cell (blk_alloc qd.out _) 0).trans rfl, (blk_cell (blk_alloc qd.out _) 1).trans rfl, (blk_cell (blk_alloc qd.out _) 2).trans rfl, (World.cell?_alloc_lt _ _ _ (World.block_lt_of_cell? _ _ (((HB.out.cell (World.block_lt_of_cell? w _ hw227_0)).trans hw227_0)))).trans (((HB.out.cell (World.block_lt_of_cell? w _ hw227_0)).trans hw227_0)), (World.cell?_alloc_lt _ _ _ (World.block_lt_of_cell? _ _ (((HB.out.cell (World.block_lt_of_cell? w _ hw227_1)).trans hw227_1)))).trans (((HB.out.cell (World.block_lt_of_cell? w _ hw227_1)).trans hw227_1))⟩ (fun hHeld => ?_)
             clear hK K
             refine norm_ (a' := ?_) ?_ ?_
             rotate_left
             ·show Act.put _ (some 68) _ = _
              simp only [Act.put, List.setIfInBounds_toArray, List.set_cons_zero, List.set_cons_succ, i64_w, i32_w]
              rfl
             refine one_ (i := 8) (N := some 69) #[true, true, true, true, true, true, true, true, true, false, false] rfl rfl (one_of HT_.out (by kernel_rfl)) (by decide) (fun K hK => ?_)
             refine Kd.R_append_step k46 (w0 := w) w.heap.size (by rfl) (.tmp 62) (.tmp 68) 23 46 (.agg #[(.string ⟨#[]⟩), (.int .i64 0)]) 24 rfl Try.underlying23 info46 rfl (by decide) (by omega) (.slice qao qaa.length qan) qaa (⟨(rd_T46 l0_2 x5_1).f0, (rd_T46 l0_2 x5_1).f1⟩ : S46) [.string ((rd_T46 l0_2 x5_1).f0), .int .i64 ((rd_T46 l0_2 x5_1).f1)] (fun k_ => some k_ ≠ (.slice qp qc.length qo : Value).ownBlock) (fun _ => False) rfl rfl ?aP (fun _ hk => hk.elim) ?aF ?aO ?aB ?aS ?aL ?_
             (case aP => exact k46_mkM _ _ _ (⟨(rd_T46 l0_2 x5_1).f0, (rd_T46 l0_2 x5_1).f1⟩ : S46))
             (case aB => exact (by repeat (((with_reducible (exact HB.out))))))
             (case aF => exact (fun k_ hk => Kd.fresh' (Kd.R_lt (by exact qf.out)) k_ hk))
             (case aO => exact (by exact qz.out))
             (case aS => exact (below_size (by repeat (((with_reducible (exact HB.out)))))))
             (case aL => have := qed.out; omega)
             intro qfc w64 ho hb hg hat
             rw [← qee.out] at ho
             have n0_ := Aside0.mk (Kd.S_after (ok := (fun k_ => some k_ ≠ (.slice qm qb.length qn : Value).ownBlock ∧ some k_ ≠ (.slice qp qc.length qo : Value).ownBlock ∧ some k_ ≠ (.slice qam qx.length qal : Value).ownBlock ∧ k_ ≠ qh ∧ k_ ≠ qi ∧ k_ ≠ qj ∧ k_ ≠ qq)) (by exact Kd.S_mono HO_3.out (fun _ hk => ⟨⟨hk.1, ⟨hk.2.1, ⟨hk.2.2.1, ⟨hk.2.2.2.2.1, ⟨hk.2.2.2.2.2.1, ⟨hk.2.2.2.2.2.2.1, hk.2.2.2.2.2.2.2⟩⟩⟩⟩⟩⟩, hk.2.2.2.1⟩)) hg hat)
             have n1_ := Aside0.mk (Kd.R_over' (by exact qe.out) (Kd.R_typed (by exact qz.out)) (by decide) hg)
             have n2_ := Aside0.mk (Kd.R_after (ok := (fun _ => True)) (by exact Kd.R_mono qf.out (fun _ hk => ⟨trivial, hk⟩)) hg hat)
             have n3_ := Aside0.mk (blk_grown (g := qh) (o := .cells #[.bool false, .slice A0_1 l0_1.length c0_1, .slice (some ad227) l0_2.length c0_2] 25 (0, 0)) (by exact qd.out) hg (Kd.R_ne qz.out qd.out (by decide)))
             have n4_ := Aside0.mk (blk_grown (g := qi) (o := .cells #[.bool qk, .slice qm qb.length qn, .slice qp qc.length qo] 25 (0, 0)) (by exact qg.out) hg (Kd.R_ne qz.out qg.out (by decide)))
             have n5_ := Aside0.mk (Kd.R_over' (by exact qu.out) (Kd.R_typed (by exact qz.out)) (by decide) hg)
             have n6_ := Aside0.mk (blk_grown (g := qj) (o := .cells #[.bool false, .slice qam qx.length qal, .slice qao qaa.length qan] 25 (0, 0)) (by exact ql.out) hg (Kd.R_ne qz.out ql.out (by decide)))
             have n7_ := Aside0.mk (blk_grown (g := qq) (o := .cells #[.bool false, .slice none 0 0, .slice none 0 0] 25 (0, 0)) (by exact qr.out) hg (Kd.R_ne qz.out qr.out (by decide)))
             have n8_ := Aside0.mk (hb)
             have n9_ := Aside0.mk (ho)
             clear HO_3 qe qf qd qg qu ql qr HB qz
             have HO_3 := n0_
             have qe := n1_
             have qf := n2_
             have qd := n3_
             have qg := n4_
             have qu := n5_
             have ql := n6_
             have qr := n7_
             have HB := n8_
             have qbh := n9_
             clear n0_ n1_ n2_ n3_ n4_ n5_ n6_ n7_ n8_ n9_ ho hb hg hat
             obtain ⟨qbc, qba, qeu⟩ := Kd.R_slice qbh.out
             ((subst qeu))
             refine hK.out _ _ ⟨(blk_cell ql.out 0).trans rfl, (blk_cell ql.out 1).trans rfl, (blk_cell ql.out 2).trans rfl, (blk_cell qd.out 0).trans rfl, (blk_cell qd.out 1).trans rfl, (blk_cell qd.out 2).trans rfl, ((HB.out.cell (World.block_lt_of_cell? w _ hw227_0)).trans hw227_0), ((HB.out.cell (World.block_lt_of_cell? w _ hw227_1)).trans hw227_1)⟩ (fun hHeld => ?_)
             clear hK K
             refine norm_ (a' := ?_) ?_ ?_
             rotate_left
             ·show Act.put _ (some 69) _ = _
              simp only [Act.put, List.setIfInBounds_toArray, List.set_cons_zero, List.set_cons_succ, i64_w, i32_w]
              rfl
             refine pure_ (i := 9) (N := some 70) (v := ?_) (a' := ?_) #[true, true, true, true, true, true, true, true, true, true, false] rfl rfl (any_of HT_.out (by kernel_rfl)) (fun _ _ _ h => h) (Or.inl ⟨by rfl, ?_⟩) ?_ ?_
             rotate_left
             ·intro w'
              go_simp
              with_reducible rfl
             rotate_left
             ·simp only [Act.put, List.setIfInBounds_toArray, List.set_cons_zero, List.set_cons_succ, i64_w, i32_w]
              rfl
             refine last_ (i := 10) (N := none) #[true, true, true, true, true, true, true, true, true, true, true] rfl rfl (one_of HT_.out (by kernel_rfl)) (by decide) (fun K hK => ?_)
             have hs66 : w64.cell? ⟨qj, 2, none⟩ = some (.slice qao qaa.length qan) := (blk_cell ql.out 2).trans rfl
             have hfs66 := blk_frozen ql.out 2
             have hns66_0 := qs.out
             have hns66_1 := qt.out
             have hns66_3 := qbf.out
             have hms66_0 := qv.out
             have hms66_1 := qw.out
             have hms66_3 := qak.out
             refine skip_ (w1 := ?_) (by rfl) rfl ?_ ?_
             rotate_left
             ·go_simp
              rfl
             refine hK.out _ _ ?_
             clear hK K
             refine done_ (done_of HT_.out (by kernel_rfl)) ?_
             try go_wp2
             have n0_ : Aside0 (Kd.S k25 25 (w64.setCell ⟨qj, 2, none⟩ (.slice qbc qax.length qba)) w.heap.size (fun k_ => some k_ ≠ (.slice qm qb.length qn : Value).ownBlock ∧ some k_ ≠ (.slice qp qc.length qo : Value).ownBlock ∧ some k_ ≠ (.slice qam qx.length qal : Value).ownBlock ∧ some k_ ≠ (.slice qbc qax.length qba : Value).ownBlock ∧ k_ ≠ qh ∧ k_ ≠ qi ∧ k_ ≠ qj ∧ k_ ≠ qq) u3 x3_1) := ⟨by exact Kd.S_mono (Kd.S_far (p := ⟨qj, 2, none⟩) (Kd.S_mono HO_3.out (fun k_ hk => (⟨hk, hk.1.2.2.2.2.2.1⟩ : _ ∧ k_ ≠ qj))) (fun _ hk => hk.2) (.slice qbc qax.length qba)) (fun _ hk => ⟨hk.1.1.1, ⟨hk.1.1.2.1, ⟨hk.1.1.2.2.1, ⟨hk.1.2, ⟨hk.1.1.2.2.2.1, ⟨hk.1.1.2.2.2.2.1, ⟨hk.1.1.2.2.2.2.2.1, hk.1.1.2.2.2.2.2.2⟩⟩⟩⟩⟩⟩⟩)⟩
             have n1_ : Aside0 (Kd.R k44 44 (w64.setCell ⟨qj, 2, none⟩ (.slice qbc qax.length qba)) w.heap.size (fun k_ => some k_ ≠ (.slice qam qx.length qal : Value).ownBlock) (.slice qm qb.length qn) qb) := ⟨by exact Kd.R_mono (Kd.R_far (p := ⟨qj, 2, none⟩) (Kd.R_types qe.out ql.out (by decide)) (fun _ hk => hk.2) (.slice qbc qax.length qba)) (fun _ hk => hk.1)⟩
             have n2_ : Aside0 (Kd.R k46 46 (w64.setCell ⟨qj, 2, none⟩ (.slice qbc qax.length qba)) w.heap.size (fun k_ => some k_ ≠ (.slice qbc qax.length qba : Value).ownBlock) (.slice qp qc.length qo) qc) := ⟨by exact Kd.R_mono (Kd.R_far (p := ⟨qj, 2, none⟩) (Kd.R_types qf.out ql.out (by decide)) (fun _ hk => hk.2) (.slice qbc qax.length qba)) (fun _ hk => hk.1.2)⟩
             have n3_ : Aside0 (Kd.R k44 44 (w64.setCell ⟨qj, 2, none⟩ (.slice qbc qax.length qba)) w.heap.size (fun k_ => some k_ ≠ (.slice qm qb.length qn : Value).ownBlock) (.slice qam qx.length qal) qx) := ⟨by exact Kd.R_mono (Kd.R_far (p := ⟨qj, 2, none⟩) (Kd.R_types qu.out ql.out (by decide)) (fun _ hk => hk.2) (.slice qbc qax.length qba)) (fun _ hk => hk.1)⟩
             have n4_ : Aside0 (Kd.R k46 46 (w64.setCell ⟨qj, 2, none⟩ (.slice qbc qax.length qba)) w.heap.size (fun k_ => some k_ ≠ (.slice qp qc.length qo : Value).ownBlock) (.slice qbc qax.length qba) qax) := ⟨by exact Kd.R_mono (Kd.R_far (p := ⟨qj, 2, none⟩) (Kd.R_types qbh.out ql.out (by decide)) (fun _ hk => hk.2) (.slice qbc qax.length qba)) (fun _ hk => hk.1)⟩
             have n5_ : Aside0 ((w64.setCell ⟨qj, 2, none⟩ (.slice qbc qax.length qba)).heap[qh]? = some (.cells #[.bool false, .slice A0_1 l0_1.length c0_1, .slice (some ad227) l0_2.length c0_2] 25 (0, 0))) := ⟨by refine blk_far ?_ qs.out _; exact qd.out⟩
             have n6_ : Aside0 ((w64.setCell ⟨qj, 2, none⟩ (.slice qbc qax.length qba)).heap[qi]? = some (.cells #[.bool qk, .slice qm qb.length qn, .slice qp qc.length qo] 25 (0, 0))) := ⟨by refine blk_far ?_ qt.out _; exact qg.out⟩
             have n7_ : Aside0 ((w64.setCell ⟨qj, 2, none⟩ (.slice qbc qax.length qba)).heap[qj]? = some (.cells #[.bool false, .slice qam qx.length qal, .slice qbc qax.length qba] 25 (0, 0))) := ⟨by refine blk_put (cs := #[.bool false, .slice qam qx.length qal, .slice qao qaa.length qan]) ?_ 2 _ rfl; exact ql.out⟩
             have n8_ : Aside0 ((w64.setCell ⟨qj, 2, none⟩ (.slice qbc qax.length qba)).heap[qq]? = some (.cells #[.bool false, .slice none 0 0, .slice none 0 0] 25 (0, 0))) := ⟨by refine blk_far ?_ qbf.out _; exact qr.out⟩
             have n9_ : Aside0 (Below w.heap.size w (w64.setCell ⟨qj, 2, none⟩ (.slice qbc qax.length qba))) := ⟨by repeat (((with_reducible first | exact HB.out | refine below_set ?_ qai.out )))⟩
             (try clear HO_3)
             (try clear qe)
             (try clear qf)
             (try clear qu)
             (try clear qbh)
             (try clear qd)
             (try clear qg)
             (try clear ql)
             (try clear qr)
             (try clear HB)
             generalize (w64.setCell ⟨qj, 2, none⟩ (.slice qbc qax.length qba)) = w67 at n0_ n1_ n2_ n3_ n4_ n5_ n6_ n7_ n8_ n9_ ⊢
             have HO_3 := n0_
             have qe := n1_
             have qf := n2_
             have qu := n3_
             have qbh := n4_
             have qd := n5_
             have qg := n6_
             have ql := n7_
             have qr := n8_
             have HB := n9_
             clear n0_ n1_ n2_ n3_ n4_ n5_ n6_ n7_ n8_ n9_
             have n0_ := Aside0.mk (Kd.S_drew HO_3.out)
             have n1_ := Aside0.mk (Kd.R_drew qe.out)
             have n2_ := Aside0.mk (Kd.R_drew qf.out)
             have n3_ := Aside0.mk (Kd.R_drew qu.out)
             have n4_ := Aside0.mk (Kd.R_drew qbh.out)
             have n5_ := Aside0.mk (blk_drew qd.out)
             have n6_ := Aside0.mk (blk_drew qg.out)
             have n7_ := Aside0.mk (blk_drew ql.out)
             have n8_ := Aside0.mk (blk_drew qr.out)
             have n9_ := Aside0.mk (below_drew1 HB.out)
             clear HO_3 qe qf qu qbh qd qg ql qr HB
             have HO_3 := n0_
             have qe := n1_
             have qf := n2_
             have qu := n3_
             have qbh := n4_
             have qd := n5_
             have qg := n6_
             have ql := n7_
             have qr := n8_
             have HB := n9_
             clear n0_ n1_ n2_ n3_ n4_ n5_ n6_ n7_ n8_ n9_
             have p231 : 0 ≤ (x5_1 : Int) := of_decide_eq_true (by ((with_reducible assumption)))
             have q231 : x5_1 < (l0_2.length : Int) := of_decide_eq_true (by ((with_reducible assumption)))
             obtain ⟨ad231, e231, hx231_0, hx231_1⟩ := at_T46 HR0_2.out x5_1 p231 q231
             have hw231_1 := hx231_1
             have hw231_0 := hx231_0
             obtain rfl : ad227 = ad231 := (by injection e231)
             replace hx231_0 := (HB.out.cell (World.block_lt_of_cell? w _ hx231_0)).trans hx231_0
             replace hx231_1 := (HB.out.cell (World.block_lt_of_cell? w _ hx231_1)).trans hx231_1
             replace p231 := eq_true p231
             replace q231 := eq_true q231
             refine start_ (n := 11) (S := fun w' => w'.cell? ⟨qq, 0, none⟩ = some (.bool false) ∧ w'.cell? ⟨qq, 1, none⟩ = some (.slice none 0 0) ∧ w'.cell? ⟨qq, 2, none⟩ = some (.slice none 0 0) ∧ w'.cell? ⟨qh, 0, none⟩ = some (.bool false) ∧ w'.cell? ⟨qh, 1, none⟩ = some (.slice A0_1 l0_1.length c0_1) ∧ w'.cell? ⟨qh, 2, none⟩ = some (.slice (some ad227) l0_2.length c0_2) ∧ w'.cell? (ad227.add ((x5_1).toNat * 2)) = some (.string ((rd_T46 l0_2 x5_1).f0)) ∧ w'.cell? ⟨(ad227.add ((x5_1).toNat * 2)).block, (ad227.add ((x5_1).toNat * 2)).off + 1, none⟩ = some (.int .i64 ((rd_T46 l0_2 x5_1).f1))) (ds := [10]) #[false, false, false, false, false, false, false, false, false, false, false] (by kernel_rfl) rfl rfl ⟨(blk_cell qr.out 0).trans rfl, (blk_cell qr.out 1).trans rfl, (blk_cell qr.out 2).trans rfl, (blk_cell qd.out 0).trans rfl, (blk_cell qd.out 1).trans rfl, (blk_cell qd.out 2).trans rfl, ((HB.out.cell (World.block_lt_of_cell? w _ hw231_0)).trans hw231_0), ((HB.out.cell (World.block_lt_of_cell? w _ hw231_1)).trans hw231_1)⟩ (fun hHeld => ?_); refine with_tabW coppiceref06_Split.tab14 coppiceref06_Split.bits14 (fun HT_ HW_ => ?_)
             generalize w67.drew = w68 at HO_3 qe qf qu qbh qd qg ql qr HB hx231_0 hx231_1 hHeld ⊢
             refine pure_ (i := 0) (N := some 71) (v := ?_) (a' := ?_) #[true, false, false, false, false, false, false, false, false, false, false] rfl rfl (any_of HT_.out (by kernel_rfl)) (fun _ _ _ h => h) (Or.inl ⟨by rfl, ?_⟩) ?_ ?_
             rotate_left
             ·intro w'
              go_simp
              with_reducible rfl
             rotate_left
             ·simp only [Act.put, List.setIfInBounds_toArray, List.set_cons_zero, List.set_cons_succ, i64_w, i32_w]
              rfl
             refine pure_ (i := 2) (N := some 73) (v := ?_) (a' := ?_) #[true, false, true, false, false, false, false, false, false, false, false] rfl rfl (any_of HT_.out (by kernel_rfl)) (fun _ _ _ h => h) (Or.inl ⟨by rfl, ?_⟩) ?_ ?_
             rotate_left
             ·intro w'
              go_simp
              with_reducible rfl
             rotate_left
             ·simp only [Act.put, List.setIfInBounds_toArray, List.set_cons_zero, List.set_cons_succ, i64_w, i32_w]
              rfl
             refine pure_ (i := 4) (N := some 75) (v := ?_) (a' := ?_) #[true, false, true, false, true, false, false, false, false, false, false] rfl rfl (any_of HT_.out (by kernel_rfl)) (fun _ _ _ h => h) (Or.inl ⟨by rfl, ?_⟩) ?_ ?_
             rotate_left
             ·intro w'
              go_simp
              with_reducible rfl
             rotate_left
             ·simp only [Act.put, List.setIfInBounds_toArray, List.set_cons_zero, List.set_cons_succ, i64_w, i32_w]
              rfl
             refine take_ (i := 1) (N := some 72) (v := ?_) (a' := ?_) #[true, true, true, false, true, false, false, false, false, false, false] rfl rfl (take_ofW HT_.out HW_.out (by kernel_rfl)) (fun _ _ _ h => h) (Or.inl ⟨by rfl, ?_⟩) hHeld ?_ ?_
             rotate_left
             ·rintro w' ⟨s0, s1, s2, s3, s4, s5, s6, s7⟩
              go_simp
              with_reducible rfl
             rotate_left
             ·simp only [Act.put, List.setIfInBounds_toArray, List.set_cons_zero, List.set_cons_succ, i64_w, i32_w]
              rfl
             refine take_ (i := 3) (N := some 74) (v := ?_) (a' := ?_) #[true, true, true, true, true, false, false, false, false, false, false] rfl rfl (take_ofW HT_.out HW_.out (by kernel_rfl)) (fun _ _ _ h => h) (Or.inl ⟨by rfl, ?_⟩) hHeld ?_ ?_
             rotate_left
             ·rintro w' ⟨s0, s1, s2, s3, s4, s5, s6, s7⟩
              go_simp
              with_reducible rfl
             rotate_left
             ·simp only [Act.put, List.setIfInBounds_toArray, List.set_cons_zero, List.set_cons_succ, i64_w, i32_w]
              rfl
             refine pure_ (i := 5) (N := some 76) (v := ?_) (a' := ?_) #[true, true, true, true, true, true, false, false, false, false, false] rfl rfl (any_of HT_.out (by kernel_rfl)) (fun _ _ _ h => h) (Or.inl ⟨by rfl, ?_⟩) ?_ ?_
             rotate_left
             ·intro w'
              go_simp
              with_reducible rfl
             rotate_left
             ·simp only [Act.put, List.setIfInBounds_toArray, List.set_cons_zero, List.set_cons_succ, i64_w, i32_w]
              rfl
             refine take_ (i := 6) (N := some 77) (v := ?_) (a' := ?_) #[true, true, true, true, true, true, true, false, false, false, false] rfl rfl (take_ofW HT_.out HW_.out (by kernel_rfl)) (fun _ _ _ h => h) (Or.inl ⟨by rfl, ?_⟩) hHeld ?_ ?_
             rotate_left
             ·rintro w' ⟨s0, s1, s2, s3, s4, s5, s6, s7⟩
              go_simp
              with_reducible rfl
             rotate_left
             ·simp only [Act.put, List.setIfInBounds_toArray, List.set_cons_zero, List.set_cons_succ, i64_w, i32_w]
              rfl
             refine one_ (i := 7) (N := some 78) #[true, true, true, true, true, true, true, true, false, false, false] rfl rfl (one_of HT_.out (by kernel_rfl)) (by decide) (fun K hK => ?_)
             refine value_ (w1 := ?_) (v := ?_) (by rfl) rfl ?_ ?_
             rotate_left 2
             ·go_simp
              constructor
              ·rfl
              ·rfl
             refine hK.out _ _ ⟨(blk_cell (blk_alloc qr.out _) 0).trans rfl, (blk_cell (blk_alloc qr.out _) 1).trans rfl, (blk_cell (blk_alloc qr.out _) 2).trans rfl, (blk_cell (blk_alloc qd.out _) 0).trans rfl, (blk_cell (blk_alloc qd.out _) 1).trans rfl, (blk_cell (blk_alloc qd.out _) 2).trans rfl, (World.cell?_alloc_lt _ _ _ (World.block_lt_of_cell? _ _ (((HB.out.cell (World.block_lt_of_cell? w _ hw231_0)).trans hw231_0)))).trans (((HB.out.cell (World.block_lt_of_cell? w _ hw231_0)).trans hw231_0)), (World.cell?_alloc_lt _ _ _ (World.block_lt_of_cell? _ _ (((HB.out.cell (World.block_lt_of_cell? w _ hw231_1)).trans hw231_1)))).trans (((HB.out.cell (World.block_lt_of_cell? w _ hw231_1)).trans hw231_1))⟩ (fun hHeld => ?_)
             clear hK K
             refine norm_ (a' := ?_) ?_ ?_
             rotate_left
             ·show Act.put _ (some 78) _ = _
              simp only [Act.put, List.setIfInBounds_toArray, List.set_cons_zero, List.set_cons_succ, i64_w, i32_w]
              rfl
             refine one_ (i := 8) (N := some 79) #[true, true, true, true, true, true, true, true, true, false, false] rfl rfl (one_of HT_.out (by kernel_rfl)) (by decide) (fun K hK => ?_)
             refine Kd.R_append_step k46 (w0 := w) w.heap.size (by rfl) (.tmp 72) (.tmp 78) 23 46 (.agg #[(.string ⟨#[]⟩), (.int .i64 0)]) 24 rfl Try.underlying23 info46 rfl (by decide) (by omega) (.slice none 0 0) ([] : List (S46)) (⟨(rd_T46 l0_2 x5_1).f0, (rd_T46 l0_2 x5_1).f1⟩ : S46) [.string ((rd_T46 l0_2 x5_1).f0), .int .i64 ((rd_T46 l0_2 x5_1).f1)] (fun k_ => some k_ ≠ (.slice qp qc.length qo : Value).ownBlock ∧ some k_ ≠ (.slice qbc qax.length qba : Value).ownBlock) (fun _ => False) rfl rfl ?aP (fun _ hk => hk.elim) ?aF ?aO ?aB ?aS ?aL ?_
             (case aP => exact k46_mkM _ _ _ (⟨(rd_T46 l0_2 x5_1).f0, (rd_T46 l0_2 x5_1).f1⟩ : S46))
             (case aB => exact (by repeat (((with_reducible (exact HB.out))))))
             (case aF => exact (fun k_ hk => ⟨Kd.fresh' (Kd.R_lt (by exact qf.out)) k_ hk, Kd.fresh' (Kd.R_lt (by exact qbh.out)) k_ hk⟩))
             (case aO => exact ((Kd.R_nil _ _ _ _ (fun k_ => some k_ ≠ (.slice qp qc.length qo : Value).ownBlock ∧ some k_ ≠ (.slice qbc qax.length qba : Value).ownBlock))))
             (case aS => exact (below_size (by repeat (((with_reducible (exact HB.out)))))))
             (case aL => have := qdv.out; omega)
             intro qff w69 ho hb hg hat
             rw [← qdy.out] at ho
             have n0_ := Aside0.mk (Kd.S_after (Kd.S_apart_nil (by exact HO_3.out)) hg hat)
             have n1_ := Aside0.mk (Kd.R_grown (by exact qe.out) hg (fun _ _ => by simp [Value.ownBlock]))
             have n2_ := Aside0.mk (Kd.R_after (Kd.R_apart_nil (by exact qf.out)) hg hat)
             have n3_ := Aside0.mk (blk_grown (g := qh) (o := .cells #[.bool false, .slice A0_1 l0_1.length c0_1, .slice (some ad227) l0_2.length c0_2] 25 (0, 0)) (by exact qd.out) hg (by simp [Value.ownBlock]))
             have n4_ := Aside0.mk (blk_grown (g := qi) (o := .cells #[.bool qk, .slice qm qb.length qn, .slice qp qc.length qo] 25 (0, 0)) (by exact qg.out) hg (by simp [Value.ownBlock]))
             have n5_ := Aside0.mk (Kd.R_grown (by exact qu.out) hg (fun _ _ => by simp [Value.ownBlock]))
             have n6_ := Aside0.mk (blk_grown (g := qj) (o := .cells #[.bool false, .slice qam qx.length qal, .slice qbc qax.length qba] 25 (0, 0)) (by exact ql.out) hg (by simp [Value.ownBlock]))
             have n7_ := Aside0.mk (blk_grown (g := qq) (o := .cells #[.bool false, .slice none 0 0, .slice none 0 0] 25 (0, 0)) (by exact qr.out) hg (by simp [Value.ownBlock]))
             have n8_ := Aside0.mk (Kd.R_after (Kd.R_apart_nil (by exact qbh.out)) hg hat)
             have n9_ := Aside0.mk (hb)
             have n10_ := Aside0.mk (ho)
             clear HO_3 qe qf qd qg qu ql qr qbh HB
             have HO_3 := n0_
             have qe := n1_
             have qf := n2_
             have qd := n3_
             have qg := n4_
             have qu := n5_
             have ql := n6_
             have qr := n7_
             have qbh := n8_
             have HB := n9_
             have qdo := n10_
             clear n0_ n1_ n2_ n3_ n4_ n5_ n6_ n7_ n8_ n9_ n10_ ho hb hg hat
             obtain ⟨qcb, qce, qep⟩ := Kd.R_slice qdo.out
             ((subst qep))
             refine hK.out _ _ ⟨(blk_cell qr.out 0).trans rfl, (blk_cell qr.out 1).trans rfl, (blk_cell qr.out 2).trans rfl, (blk_cell qd.out 0).trans rfl, (blk_cell qd.out 1).trans rfl, (blk_cell qd.out 2).trans rfl, ((HB.out.cell (World.block_lt_of_cell? w _ hw231_0)).trans hw231_0), ((HB.out.cell (World.block_lt_of_cell? w _ hw231_1)).trans hw231_1)⟩ (fun hHeld => ?_)
             clear hK K
             refine norm_ (a' := ?_) ?_ ?_
             rotate_left
             ·show Act.put _ (some 79) _ = _
              simp only [Act.put, List.setIfInBounds_toArray, List.set_cons_zero, List.set_cons_succ, i64_w, i32_w]
              rfl
             refine pure_ (i := 9) (N := some 80) (v := ?_) (a' := ?_) #[true, true, true, true, true, true, true, true, true, true, false] rfl rfl (any_of HT_.out (by kernel_rfl)) (fun _ _ _ h => h) (Or.inl ⟨by rfl, ?_⟩) ?_ ?_
             rotate_left
             ·intro w'
              go_simp
              with_reducible rfl
             rotate_left
             ·simp only [Act.put, List.setIfInBounds_toArray, List.set_cons_zero, List.set_cons_succ, i64_w, i32_w]
              rfl
             refine last_ (i := 10) (N := none) #[true, true, true, true, true, true, true, true, true, true, true] rfl rfl (one_of HT_.out (by kernel_rfl)) (by decide) (fun K hK => ?_)
             have hs71 : w69.cell? ⟨qq, 2, none⟩ = some (.slice none 0 0) := (blk_cell qr.out 2).trans rfl
             have hfs71 := blk_frozen qr.out 2
             have hns71_0 := qaw.out
             have hns71_1 := qas.out
             have hns71_2 := qak.out
             have hms71_0 := qbn.out
             have hms71_1 := qbm.out
             have hms71_2 := qbf.out
             refine skip_ (w1 := ?_) (by rfl) rfl ?_ ?_
             rotate_left
             ·go_simp
              rfl
             refine hK.out _ _ ?_
             clear hK K
             refine done_ (done_of HT_.out (by kernel_rfl)) ?_
             try go_wp2
             go_meet
             case rel => exact ⟨_, (qx), (qax), (([] : List (S44))), (qbv), (.slice qam qx.length qal), (.slice qbc qax.length qba), (.slice none 0 0), (.slice qcb qbv.length qce), H', ⟨by have := HK1.out; (omega)⟩, ⟨by exact Kd.S_mono (Kd.S_far (p := ⟨qq, 2, none⟩) (Kd.S_mono HO_3.out (fun k_ hk => (⟨hk, hk.1.2.2.2.2.2.2.2⟩ : _ ∧ k_ ≠ qq))) (fun _ hk => hk.2) (.slice qcb qbv.length qce)) (fun _ hk => ⟨hk.1.1.1, ⟨hk.1.1.2.1, ⟨hk.1.1.2.2.1, ⟨hk.1.1.2.2.2.1, ⟨(by simp [Value.ownBlock]), ⟨hk.1.2, ⟨hk.1.1.2.2.2.2.1, ⟨hk.1.1.2.2.2.2.2.1, ⟨hk.1.1.2.2.2.2.2.2.1, hk.1.1.2.2.2.2.2.2.2⟩⟩⟩⟩⟩⟩⟩⟩⟩)⟩, ⟨by exact Kd.R_mono (Kd.R_far (p := ⟨qq, 2, none⟩) (Kd.R_types qe.out qr.out (by decide)) (fun _ hk => hk.2) (.slice qcb qbv.length qce)) (fun _ hk => ⟨hk.1, (by simp [Value.ownBlock])⟩)⟩, ⟨by exact Kd.R_mono (Kd.R_far (p := ⟨qq, 2, none⟩) (Kd.R_types qf.out qr.out (by decide)) (fun _ hk => hk.2) (.slice qcb qbv.length qce)) (fun _ hk => ⟨hk.1.1, hk.1.2⟩)⟩, ⟨by exact Kd.R_mono (Kd.R_far (p := ⟨qq, 2, none⟩) (Kd.R_types qu.out qr.out (by decide)) (fun _ hk => hk.2) (.slice qcb qbv.length qce)) (fun _ hk => ⟨hk.1, (by simp [Value.ownBlock])⟩)⟩, ⟨by exact Kd.R_mono (Kd.R_far (p := ⟨qq, 2, none⟩) (Kd.R_types qbh.out qr.out (by decide)) (fun _ hk => hk.2) (.slice qcb qbv.length qce)) (fun _ hk => ⟨hk.1.1, hk.1.2⟩)⟩, ⟨by (exact Kd.R_nil _ _ _ _ _)⟩, ⟨by exact Kd.R_mono (Kd.R_far (p := ⟨qq, 2, none⟩) (Kd.R_types qdo.out qr.out (by decide)) (fun _ hk => hk.2) (.slice qcb qbv.length qce)) (fun _ hk => ⟨hk.1.1, hk.1.2⟩)⟩, ⟨by refine blk_far ?_ qaw.out _; exact qd.out⟩, ⟨by refine blk_far ?_ qas.out _; exact qg.out⟩, ⟨by refine blk_far ?_ qak.out _; exact ql.out⟩, ⟨by refine blk_put (cs := #[.bool false, .slice none 0 0, .slice none 0 0]) ?_ 2 _ rfl; exact qr.out⟩, ⟨by repeat (((with_reducible first | exact HB.out | refine below_set ?_ qcl.out)))⟩⟩
            ·rw [if_neg c61] at H
             exact absurd H (by simp)
           ·rw [if_neg c60] at H
            exact absurd H (by simp)
          ·rw [if_neg c59] at H
           exact absurd H (by simp)
         ·rw [if_neg c58] at H
          exact absurd H (by simp)
       case rest =>
        clear qdk
        try clear p2
        try clear q2
        try clear hx2
        try clear c4
        try clear c5
        try clear c6
        try clear p22
        try clear q22
        try clear hx22
        try clear p23
        try clear q23
        try clear hx23
        try clear c43
        try clear c44
        try clear c45
        try clear c46
        try clear c47
        try clear c58
        try clear c58b0
        try clear c59
        try clear c59b0
        try clear c60
        try clear c61
        try clear hx227_0
        try clear hx227_1
        try clear hx231_0
        try clear hx231_1
        try clear p227
        try clear p231
        try clear q227
        try clear q231
        obtain ⟨kq, qac, qad, qat, qaz, qbk, qbj, qau, qav, HA, HJ13, HO_3, qe, qf, qag, qah, qaq, qar, qd, qg, ql, qr, HB⟩ := hcut
        cases kq with
        | zero => exact absurd HA.out (by simp [coppiceref06_Split.j1])
        | succ kj13 =>
         have H := HA.out
         clear HA
         simp only [coppiceref06_Split.j1] at H
         replace H := Option.bind_eq_some_iff.mp H
         obtain ⟨qbx, A720, H⟩ := H
         replace H : (if (qbx.size : Int) > 1007 then (if x3_1.length < 2513169434916 then (coppiceref06_Split.l0 kj13 (x3_1 ++ [(⟨qk, qb, qc⟩ : S25)]) (wrap64 (x5_1 + 1)) a0_0 l0_1 l0_2 a0_0 qat qaz) else (none)) else (coppiceref06_Split.l0 kj13 x3_1 (wrap64 (x5_1 + 1)) a0_0 l0_1 l0_2 a0_0 qac qad)) = some r := H
         have A72 := Aside0.mk A720
         clear A720
         by_cases c73 : (qbx.size : Int) > 1007
         ·rw [if_pos c73] at H
          have c73b0 : decide (1007 < (qbx.size : Int)) = true := decide_eq_true c73
          have c73b1 : decide (1007 < qbx.size) = true := decide_eq_true (by omega)
          clear c73
          by_cases c74 : x3_1.length < 2513169434916
          ·rw [if_pos c74] at H
           have qdx := Aside0.mk c74
           clear c74
           obtain ⟨qds, qcs⟩ : ∃ y_ : List (S25), y_ = (x3_1 ++ [(⟨qk, qb, qc⟩ : S25)]) := ⟨_, rfl⟩
           replace H : (coppiceref06_Split.l0 kj13 qds (wrap64 (x5_1 + 1)) a0_0 l0_1 l0_2 a0_0 qat qaz) = some r := by ((rw [qcs]; with_reducible exact H))
           have qef := Aside0.mk qcs
           clear qcs
           have H' := Aside0.mk H
           clear H
           have hnb75 := qv.out
           have hnc75 := qs.out
           have hnb76 := qw.out
           have hnc76 := qt.out
           have hnb77 := qak.out
           have hnc77 := qbf.out
           have hcz78_0 : wc.cell? ⟨qj, 0, none⟩ = some (.bool a0_0) := (blk_cell ql.out 0).trans rfl
           have hcz78_1 : wc.cell? ⟨qj, 1, none⟩ = some (qbk) := (blk_cell ql.out 1).trans rfl
           have hcz78_2 : wc.cell? ⟨qj, 2, none⟩ = some (qbj) := (blk_cell ql.out 2).trans rfl
           have hfz78_0 := blk_frozen ql.out 0
           have hfz78_1 := blk_frozen ql.out 1
           have hfz78_2 := blk_frozen ql.out 2
           obtain ⟨qbr, qbt, qeo⟩ := Kd.R_slice qag.out
           subst qeo
           obtain ⟨qbs, qbw, qel⟩ := Kd.R_slice qah.out
           subst qel
           go_wp2_with (first | ((with_reducible refine gate_callee (f := 27) rfl ?_); refine goesL_ (some 82) rfl rfl Try.func27 (by kernel_rfl) rfl #[.agg #[.bool a0_0, .slice qbr qac.length qbt, .slice qbs qad.length qbw]] rfl (by (try simp only [List.map_toArray, List.map_cons, List.map_nil]); (rfl)) ?_; (with_reducible refine (coppiceref06_bytes.calls kj13 a0_0 _ _ qac _ _ qad qbx _ ?side1 ?side2 ?side3 ?side4 A72.out).mono ?_); (case side1 => repeat ((exact (Kd.R_reads' qag.out).2.2))); (case side2 => exact (Kd.R_reads' qag.out).2.1); (case side3 => repeat ((exact (Kd.R_reads' qah.out).2.2))); (case side4 => exact (Kd.R_reads' qah.out).2.1); rintro e w81 ⟨rfl, hb⟩; refine ⟨_, rfl, ?_⟩; have n0_ := Aside0.mk (Kd.S_below (by exact HO_3.out) hb); have n1_ := Aside0.mk (Kd.R_below (by exact qe.out) hb); have n2_ := Aside0.mk (Kd.R_below (by exact qf.out) hb); have n3_ := Aside0.mk (Kd.R_below (by exact qag.out) hb); have n4_ := Aside0.mk (Kd.R_below (by exact qah.out) hb); have n5_ := Aside0.mk (Kd.R_below (by exact qaq.out) hb); have n6_ := Aside0.mk (Kd.R_below (by exact qar.out) hb); have n7_ := Aside0.mk (blk_below (g := qh) (o := .cells #[.bool a0_0, .slice A0_1 l0_1.length c0_1, .slice A0_2 l0_2.length c0_2] 25 (0, 0)) (by exact qd.out) hb); have n8_ := Aside0.mk (blk_below (g := qi) (o := .cells #[.bool qk, .slice qm qb.length qn, .slice qp qc.length qo] 25 (0, 0)) (by exact qg.out) hb); have n9_ := Aside0.mk (blk_below (g := qj) (o := .cells #[.bool a0_0, .slice qbr qac.length qbt, .slice qbs qad.length qbw] 25 (0, 0)) (by exact ql.out) hb); have n10_ := Aside0.mk (blk_below (g := qq) (o := .cells #[.bool a0_0, qau, qav] 25 (0, 0)) (by exact qr.out) hb); have n11_ := Aside0.mk (below_step (by repeat (((with_reducible (exact HB.out))))) hb); clear HO_3; clear qe; clear qf; clear qag; clear qah; clear qaq; clear qar; clear qd; clear qg; clear ql; clear qr; clear HB; have HO_3 := n0_; have qe := n1_; have qf := n2_; have qag := n3_; have qah := n4_; have qaq := n5_; have qar := n6_; have qd := n7_; have qg := n8_; have ql := n9_; have qr := n10_; have HB := n11_; clear n0_ n1_ n2_ n3_ n4_ n5_ n6_ n7_ n8_ n9_ n10_ n11_; (try clear hb); (try clear hb2); (try clear hk); (try clear hi); have hnb82 := qbl.out; have hnc82 := qap.out; have hnb83 := qas.out; have hnc83 := qbm.out; have hcz84_0 : w81.cell? ⟨qi, 0, none⟩ = some (.bool qk) := (blk_cell qg.out 0).trans rfl; have hcz84_1 : w81.cell? ⟨qi, 1, none⟩ = some (.slice qm qb.length qn) := (blk_cell qg.out 1).trans rfl; have hcz84_2 : w81.cell? ⟨qi, 2, none⟩ = some (.slice qp qc.length qo) := (blk_cell qg.out 2).trans rfl; have hfz84_0 := blk_frozen qg.out 0; have hfz84_1 := blk_frozen qg.out 1; have hfz84_2 := blk_frozen qg.out 2) | ((with_reducible refine gate_builtin (b := .append) (xs := #[.tmp 85, .tmp 87]) rfl ?_); at_builtin; refine Kd.S_append k25 (w0 := w) w.heap.size rfl (.tmp 85) (.tmp 87) 38 25 (.agg #[(.bool false), (.slice none 0 0), (.slice none 0 0)]) 56 rfl Try.underlying38 info25 rfl (by decide) (by omega) u3 x3_1 (⟨qk, qb, qc⟩ : S25) [.bool qk, .slice qm qb.length qn, .slice qp qc.length qo] (fun k_ => some k_ ≠ (.slice qbr qac.length qbt : Value).ownBlock ∧ some k_ ≠ (.slice qbs qad.length qbw : Value).ownBlock ∧ some k_ ≠ (qau : Value).ownBlock ∧ some k_ ≠ (qav : Value).ownBlock ∧ k_ ≠ qh ∧ k_ ≠ qi ∧ k_ ≠ qj ∧ k_ ≠ qq) (fun k_ => some k_ = (.slice qm qb.length qn : Value).ownBlock ∨ some k_ = (.slice qp qc.length qo : Value).ownBlock) rfl rfl ?aP (fun k_ hk_ => hk_.elim (fun h_ => ((Kd.R_mono (ok' := fun k_ => ((fun k_ => some k_ ≠ (.slice qbr qac.length qbt : Value).ownBlock ∧ some k_ ≠ (.slice qbs qad.length qbw : Value).ownBlock ∧ some k_ ≠ (qau : Value).ownBlock ∧ some k_ ≠ (qav : Value).ownBlock ∧ k_ ≠ qh ∧ k_ ≠ qi ∧ k_ ≠ qj ∧ k_ ≠ qq)) k_ ∧ some k_ ≠ (u3 : Value).ownBlock) (Kd.R_types (Kd.R_types (Kd.R_types (Kd.R_types (Kd.R_apart' (Kd.R_apart' (Kd.R_apart' (qe.out) (Kd.R_typed qah.out) (by decide)) (Kd.R_typed qar.out) (by decide)) (Kd.S_typed HO_3.out) (by decide)) qd.out (by decide)) qg.out (by decide)) ql.out (by decide)) qr.out (by decide)) (fun k_ hk => ⟨⟨hk.1.1.1.1.1.1.1.1, ⟨hk.1.1.1.1.1.1.2, ⟨hk.1.1.1.1.1.1.1.2, ⟨hk.1.1.1.1.1.2, ⟨hk.1.1.1.2, ⟨hk.1.1.2, ⟨hk.1.2, hk.2⟩⟩⟩⟩⟩⟩⟩, hk.1.1.1.1.2⟩))).1 k_ h_.symm) (fun h_ => ((Kd.R_mono (ok' := fun k_ => ((fun k_ => some k_ ≠ (.slice qbr qac.length qbt : Value).ownBlock ∧ some k_ ≠ (.slice qbs qad.length qbw : Value).ownBlock ∧ some k_ ≠ (qau : Value).ownBlock ∧ some k_ ≠ (qav : Value).ownBlock ∧ k_ ≠ qh ∧ k_ ≠ qi ∧ k_ ≠ qj ∧ k_ ≠ qq)) k_ ∧ some k_ ≠ (u3 : Value).ownBlock) (Kd.R_types (Kd.R_types (Kd.R_types (Kd.R_types (Kd.R_apart' (Kd.R_apart' (Kd.R_apart' (qf.out) (Kd.R_typed qag.out) (by decide)) (Kd.R_typed qaq.out) (by decide)) (Kd.S_typed HO_3.out) (by decide)) qd.out (by decide)) qg.out (by decide)) ql.out (by decide)) qr.out (by decide)) (fun k_ hk => ⟨⟨hk.1.1.1.1.1.1.2, ⟨hk.1.1.1.1.1.1.1.1, ⟨hk.1.1.1.1.1.2, ⟨hk.1.1.1.1.1.1.1.2, ⟨hk.1.1.1.2, ⟨hk.1.1.2, ⟨hk.1.2, hk.2⟩⟩⟩⟩⟩⟩⟩, hk.1.1.1.1.2⟩))).1 k_ h_.symm)) ?aF ?aO ?aB ?aS ?aL ?_; (case aP => exact k25_mkM _ _ _ (⟨qk, qb, qc⟩ : S25) (Kd.R_mono (Kd.R_tight rfl (Kd.R_mono (ok' := fun k_ => ((fun k_ => some k_ ≠ (.slice qbr qac.length qbt : Value).ownBlock ∧ some k_ ≠ (.slice qbs qad.length qbw : Value).ownBlock ∧ some k_ ≠ (qau : Value).ownBlock ∧ some k_ ≠ (qav : Value).ownBlock ∧ k_ ≠ qh ∧ k_ ≠ qi ∧ k_ ≠ qj ∧ k_ ≠ qq)) k_ ∧ some k_ ≠ (u3 : Value).ownBlock) (Kd.R_types (Kd.R_types (Kd.R_types (Kd.R_types (Kd.R_apart' (Kd.R_apart' (Kd.R_apart' (qe.out) (Kd.R_typed qah.out) (by decide)) (Kd.R_typed qar.out) (by decide)) (Kd.S_typed HO_3.out) (by decide)) qd.out (by decide)) qg.out (by decide)) ql.out (by decide)) qr.out (by decide)) (fun k_ hk => ⟨⟨hk.1.1.1.1.1.1.1.1, ⟨hk.1.1.1.1.1.1.2, ⟨hk.1.1.1.1.1.1.1.2, ⟨hk.1.1.1.1.1.2, ⟨hk.1.1.1.2, ⟨hk.1.1.2, ⟨hk.1.2, hk.2⟩⟩⟩⟩⟩⟩⟩, hk.1.1.1.1.2⟩))) (fun _ h_ => Or.inl h_)) (Kd.R_mono (Kd.R_tight rfl (Kd.R_mono (ok' := fun k_ => ((fun k_ => some k_ ≠ (.slice qbr qac.length qbt : Value).ownBlock ∧ some k_ ≠ (.slice qbs qad.length qbw : Value).ownBlock ∧ some k_ ≠ (qau : Value).ownBlock ∧ some k_ ≠ (qav : Value).ownBlock ∧ k_ ≠ qh ∧ k_ ≠ qi ∧ k_ ≠ qj ∧ k_ ≠ qq)) k_ ∧ some k_ ≠ (u3 : Value).ownBlock) (Kd.R_types (Kd.R_types (Kd.R_types (Kd.R_types (Kd.R_apart' (Kd.R_apart' (Kd.R_apart' (qf.out) (Kd.R_typed qag.out) (by decide)) (Kd.R_typed qaq.out) (by decide)) (Kd.S_typed HO_3.out) (by decide)) qd.out (by decide)) qg.out (by decide)) ql.out (by decide)) qr.out (by decide)) (fun k_ hk => ⟨⟨hk.1.1.1.1.1.1.2, ⟨hk.1.1.1.1.1.1.1.1, ⟨hk.1.1.1.1.1.2, ⟨hk.1.1.1.1.1.1.1.2, ⟨hk.1.1.1.2, ⟨hk.1.1.2, ⟨hk.1.2, hk.2⟩⟩⟩⟩⟩⟩⟩, hk.1.1.1.1.2⟩))) (fun _ h_ => Or.inr (h_)))); (case aB => exact (by repeat (((with_reducible (exact HB.out)))))); (case aF => exact (fun k_ hk => ⟨Kd.fresh' (Kd.R_lt (by exact qag.out)) k_ hk, Kd.fresh' (Kd.R_lt (by exact qah.out)) k_ hk, Kd.fresh' (Kd.R_lt (by exact qaq.out)) k_ hk, Kd.fresh' (Kd.R_lt (by exact qar.out)) k_ hk, Kd.freshB (g := qh) (o := .cells #[.bool a0_0, .slice A0_1 l0_1.length c0_1, .slice A0_2 l0_2.length c0_2] 25 (0, 0)) (by exact qd.out) k_ hk, Kd.freshB (g := qi) (o := .cells #[.bool qk, .slice qm qb.length qn, .slice qp qc.length qo] 25 (0, 0)) (by exact qg.out) k_ hk, Kd.freshB (g := qj) (o := .cells #[.bool a0_0, .slice qbr qac.length qbt, .slice qbs qad.length qbw] 25 (0, 0)) (by exact ql.out) k_ hk, Kd.freshB (g := qq) (o := .cells #[.bool a0_0, qau, qav] 25 (0, 0)) (by exact qr.out) k_ hk⟩)); (case aO => exact (by exact Kd.S_mono HO_3.out (fun k_ hk => ⟨⟨hk.2.2.1, ⟨hk.2.2.2.1, ⟨hk.2.2.2.2.1, ⟨hk.2.2.2.2.2.1, ⟨hk.2.2.2.2.2.2.1, ⟨hk.2.2.2.2.2.2.2.1, ⟨hk.2.2.2.2.2.2.2.2.1, hk.2.2.2.2.2.2.2.2.2⟩⟩⟩⟩⟩⟩⟩, fun e_ => e_.elim (fun h_ => hk.1 h_) (fun h_ => hk.2.1 h_)⟩))); (case aS => exact (below_size (by repeat (((with_reducible (exact HB.out))))))); (case aL => have := qdx.out; omega); intro qfe w85 ho hb hg hat; rw [← qef.out] at ho; have n0_ := Aside0.mk (Kd.R_over' (by exact qag.out) (Kd.S_typed (by exact HO_3.out)) (by decide) hg); have n1_ := Aside0.mk (Kd.R_over' (by exact qah.out) (Kd.S_typed (by exact HO_3.out)) (by decide) hg); have n2_ := Aside0.mk (Kd.R_over' (by exact qaq.out) (Kd.S_typed (by exact HO_3.out)) (by decide) hg); have n3_ := Aside0.mk (Kd.R_over' (by exact qar.out) (Kd.S_typed (by exact HO_3.out)) (by decide) hg); have n4_ := Aside0.mk (blk_grown (g := qh) (o := .cells #[.bool a0_0, .slice A0_1 l0_1.length c0_1, .slice A0_2 l0_2.length c0_2] 25 (0, 0)) (by exact qd.out) hg (Kd.S_away HO_3.out (fun _ hk => hk.2.2.2.2.2.2.1))); have n5_ := Aside0.mk (blk_grown (g := qi) (o := .cells #[.bool qk, .slice qm qb.length qn, .slice qp qc.length qo] 25 (0, 0)) (by exact qg.out) hg (Kd.S_away HO_3.out (fun _ hk => hk.2.2.2.2.2.2.2.1))); have n6_ := Aside0.mk (blk_grown (g := qj) (o := .cells #[.bool a0_0, .slice qbr qac.length qbt, .slice qbs qad.length qbw] 25 (0, 0)) (by exact ql.out) hg (Kd.S_away HO_3.out (fun _ hk => hk.2.2.2.2.2.2.2.2.1))); have n7_ := Aside0.mk (blk_grown (g := qq) (o := .cells #[.bool a0_0, qau, qav] 25 (0, 0)) (by exact qr.out) hg (Kd.S_away HO_3.out (fun _ hk => hk.2.2.2.2.2.2.2.2.2))); have n8_ := Aside0.mk (hb); have n9_ := Aside0.mk (ho); clear qag; clear qah; clear qaq; clear qar; clear qd; clear qg; clear ql; clear qr; clear HB; clear HO_3; clear qe; clear qf; have qag := n0_; have qah := n1_; have qaq := n2_; have qar := n3_; have qd := n4_; have qg := n5_; have ql := n6_; have qr := n7_; have HB := n8_; have qei := n9_; clear n0_ n1_ n2_ n3_ n4_ n5_ n6_ n7_ n8_ n9_; clear ho hb hg hat; have hnb86 := qbn.out; have hnc86 := qaw.out; have hcz87_0 : w85.cell? ⟨qq, 0, none⟩ = some (.bool a0_0) := (blk_cell qr.out 0).trans rfl; have hcz87_1 : w85.cell? ⟨qq, 1, none⟩ = some (qau) := (blk_cell qr.out 1).trans rfl; have hcz87_2 : w85.cell? ⟨qq, 2, none⟩ = some (qav) := (blk_cell qr.out 2).trans rfl; have hfz87_0 := blk_frozen qr.out 0; have hfz87_1 := blk_frozen qr.out 1; have hfz87_2 := blk_frozen qr.out 2; have hcz88_0 : w85.cell? ⟨qi, 0, none⟩ = some (.bool qk) := (blk_cell qg.out 0).trans rfl; have hcz88_1 : w85.cell? ⟨qi, 1, none⟩ = some (.slice qm qb.length qn) := (blk_cell qg.out 1).trans rfl; have hcz88_2 : w85.cell? ⟨qi, 2, none⟩ = some (.slice qp qc.length qo) := (blk_cell qg.out 2).trans rfl; have hfz88_0 := blk_frozen qg.out 0; have hfz88_1 := blk_frozen qg.out 1; have hfz88_2 := blk_frozen qg.out 2; obtain ⟨qcp, qcq, qer⟩ := Kd.R_slice qaq.out; subst qer; obtain ⟨qcy, qcv, qek⟩ := Kd.R_slice qar.out; subst qek))
           go_roundg kj13
           case measure => have := HK1.out; have := HJ13.out; omega
           case rel => exact ⟨(qds), (wrap64 (x5_1 + 1)), (a0_0), (qat), (qaz), (.slice qcp qat.length qcq), (.slice qcy qaz.length qcv), (by (rfl)), H', ⟨by have := HK1.out; have := HJ13.out; omega⟩, ⟨by exact Kd.S_mono (Kd.S_far (p := ⟨qi, 2, none⟩) (Kd.S_far (p := ⟨qi, 1, none⟩) (Kd.S_far (p := ⟨qi, 0, none⟩) (Kd.S_mono qei.out (fun k_ hk => (⟨hk, hk.2.2.2.2.2.1⟩ : _ ∧ k_ ≠ qi))) (fun _ hk => hk.2) (.bool a0_0)) (fun _ hk => hk.2) (.slice qcp qat.length qcq)) (fun _ hk => hk.2) (.slice qcy qaz.length qcv)) (fun _ hk => ⟨hk.1.2.2.1, ⟨hk.1.2.2.2.1, ⟨hk.1.2.2.2.2.1, hk.1.2.2.2.2.2.1⟩⟩⟩)⟩, ⟨by exact Kd.R_mono (Kd.R_far (p := ⟨qi, 2, none⟩) (Kd.R_far (p := ⟨qi, 1, none⟩) (Kd.R_far (p := ⟨qi, 0, none⟩) (Kd.R_types qaq.out qg.out (by decide)) (fun _ hk => hk.2) (.bool a0_0)) (fun _ hk => hk.2) (.slice qcp qat.length qcq)) (fun _ hk => hk.2) (.slice qcy qaz.length qcv)) (fun _ hk => trivial)⟩, ⟨by exact Kd.R_mono (Kd.R_far (p := ⟨qi, 2, none⟩) (Kd.R_far (p := ⟨qi, 1, none⟩) (Kd.R_far (p := ⟨qi, 0, none⟩) (Kd.R_types qar.out qg.out (by decide)) (fun _ hk => hk.2) (.bool a0_0)) (fun _ hk => hk.2) (.slice qcp qat.length qcq)) (fun _ hk => hk.2) (.slice qcy qaz.length qcv)) (fun _ hk => trivial)⟩, ⟨by refine blk_far ?_ qap.out _; refine blk_far ?_ qap.out _; refine blk_far ?_ qap.out _; exact qd.out⟩, ⟨by refine blk_put (cs := #[.bool a0_0, .slice qcp qat.length qcq, .slice qp qc.length qo]) ?_ 2 _ rfl; refine blk_put (cs := #[.bool a0_0, .slice qm qb.length qn, .slice qp qc.length qo]) ?_ 1 _ rfl; refine blk_put (cs := #[.bool qk, .slice qm qb.length qn, .slice qp qc.length qo]) ?_ 0 _ rfl; exact qg.out⟩, ⟨by repeat (((with_reducible first | exact HB.out | refine below_set ?_ qct.out )))⟩⟩
          ·rw [if_neg c74] at H
           exact absurd H (by simp)
         ·rw [if_neg c73] at H
          have c73b0 : decide (1007 < (qbx.size : Int)) = false := decide_eq_false c73
          have c73b1 : decide (1007 < qbx.size) = false := decide_eq_false (by omega)
          clear c73
          have H' := Aside0.mk H
          clear H
          have hnb91 := qv.out
          have hnc91 := qs.out
          have hnb92 := qw.out
          have hnc92 := qt.out
          have hnb93 := qak.out
          have hnc93 := qbf.out
          have hcz94_0 : wc.cell? ⟨qj, 0, none⟩ = some (.bool a0_0) := (blk_cell ql.out 0).trans rfl
          have hcz94_1 : wc.cell? ⟨qj, 1, none⟩ = some (qbk) := (blk_cell ql.out 1).trans rfl
          have hcz94_2 : wc.cell? ⟨qj, 2, none⟩ = some (qbj) := (blk_cell ql.out 2).trans rfl
          have hfz94_0 := blk_frozen ql.out 0
          have hfz94_1 := blk_frozen ql.out 1
          have hfz94_2 := blk_frozen ql.out 2
          obtain ⟨qby, qbz, qew⟩ := Kd.R_slice qag.out
          subst qew
          obtain ⟨qcg, qcf, qev⟩ := Kd.R_slice qah.out
          subst qev
          go_wp2_with (first | ((with_reducible refine gate_callee (f := 27) rfl ?_); refine goesL_ (some 82) rfl rfl Try.func27 (by kernel_rfl) rfl #[.agg #[.bool a0_0, .slice qby qac.length qbz, .slice qcg qad.length qcf]] rfl (by (try simp only [List.map_toArray, List.map_cons, List.map_nil]); (rfl)) ?_; (with_reducible refine (coppiceref06_bytes.calls kj13 a0_0 _ _ qac _ _ qad qbx _ ?side1 ?side2 ?side3 ?side4 A72.out).mono ?_); (case side1 => repeat ((exact (Kd.R_reads' qag.out).2.2))); (case side2 => exact (Kd.R_reads' qag.out).2.1); (case side3 => repeat ((exact (Kd.R_reads' qah.out).2.2))); (case side4 => exact (Kd.R_reads' qah.out).2.1); rintro e w97 ⟨rfl, hb⟩; refine ⟨_, rfl, ?_⟩; have n0_ := Aside0.mk (Kd.S_below (by exact HO_3.out) hb); have n1_ := Aside0.mk (Kd.R_below (by exact qe.out) hb); have n2_ := Aside0.mk (Kd.R_below (by exact qf.out) hb); have n3_ := Aside0.mk (Kd.R_below (by exact qag.out) hb); have n4_ := Aside0.mk (Kd.R_below (by exact qah.out) hb); have n5_ := Aside0.mk (Kd.R_below (by exact qaq.out) hb); have n6_ := Aside0.mk (Kd.R_below (by exact qar.out) hb); have n7_ := Aside0.mk (blk_below (g := qh) (o := .cells #[.bool a0_0, .slice A0_1 l0_1.length c0_1, .slice A0_2 l0_2.length c0_2] 25 (0, 0)) (by exact qd.out) hb); have n8_ := Aside0.mk (blk_below (g := qi) (o := .cells #[.bool qk, .slice qm qb.length qn, .slice qp qc.length qo] 25 (0, 0)) (by exact qg.out) hb); have n9_ := Aside0.mk (blk_below (g := qj) (o := .cells #[.bool a0_0, .slice qby qac.length qbz, .slice qcg qad.length qcf] 25 (0, 0)) (by exact ql.out) hb); have n10_ := Aside0.mk (blk_below (g := qq) (o := .cells #[.bool a0_0, qau, qav] 25 (0, 0)) (by exact qr.out) hb); have n11_ := Aside0.mk (below_step (by repeat (((with_reducible (exact HB.out))))) hb); clear HO_3; clear qe; clear qf; clear qag; clear qah; clear qaq; clear qar; clear qd; clear qg; clear ql; clear qr; clear HB; have HO_3 := n0_; have qe := n1_; have qf := n2_; have qag := n3_; have qah := n4_; have qaq := n5_; have qar := n6_; have qd := n7_; have qg := n8_; have ql := n9_; have qr := n10_; have HB := n11_; clear n0_ n1_ n2_ n3_ n4_ n5_ n6_ n7_ n8_ n9_ n10_ n11_; (try clear hb); (try clear hb2); (try clear hk); (try clear hi); have hcz98_0 : w97.cell? ⟨qj, 0, none⟩ = some (.bool a0_0) := (blk_cell ql.out 0).trans rfl; have hcz98_1 : w97.cell? ⟨qj, 1, none⟩ = some (.slice qby qac.length qbz) := (blk_cell ql.out 1).trans rfl; have hcz98_2 : w97.cell? ⟨qj, 2, none⟩ = some (.slice qcg qad.length qcf) := (blk_cell ql.out 2).trans rfl; have hfz98_0 := blk_frozen ql.out 0; have hfz98_1 := blk_frozen ql.out 1; have hfz98_2 := blk_frozen ql.out 2; have hnb99 := qbl.out; have hnc99 := qap.out; have hnb100 := qas.out; have hnc100 := qbm.out; have hcz101_0 : w97.cell? ⟨qi, 0, none⟩ = some (.bool qk) := (blk_cell qg.out 0).trans rfl; have hcz101_1 : w97.cell? ⟨qi, 1, none⟩ = some (.slice qm qb.length qn) := (blk_cell qg.out 1).trans rfl; have hcz101_2 : w97.cell? ⟨qi, 2, none⟩ = some (.slice qp qc.length qo) := (blk_cell qg.out 2).trans rfl; have hfz101_0 := blk_frozen qg.out 0; have hfz101_1 := blk_frozen qg.out 1; have hfz101_2 := blk_frozen qg.out 2))
          go_roundg kj13
          case measure => have := HK1.out; have := HJ13.out; omega
          case rel => exact ⟨(x3_1), (wrap64 (x5_1 + 1)), (a0_0), (qac), (qad), (.slice qby qac.length qbz), (.slice qcg qad.length qcf), (by (rfl)), H', ⟨by have := HK1.out; have := HJ13.out; omega⟩, ⟨by exact Kd.S_mono (Kd.S_far (p := ⟨qi, 2, none⟩) (Kd.S_far (p := ⟨qi, 1, none⟩) (Kd.S_far (p := ⟨qi, 0, none⟩) (Kd.S_mono HO_3.out (fun k_ hk => (⟨hk, hk.2.2.2.2.2.2.2.1⟩ : _ ∧ k_ ≠ qi))) (fun _ hk => hk.2) (.bool a0_0)) (fun _ hk => hk.2) (.slice qby qac.length qbz)) (fun _ hk => hk.2) (.slice qcg qad.length qcf)) (fun _ hk => ⟨hk.1.2.2.1, ⟨hk.1.2.2.2.1, ⟨hk.1.2.2.2.2.2.2.1, hk.1.2.2.2.2.2.2.2.1⟩⟩⟩)⟩, ⟨by exact Kd.R_mono (Kd.R_far (p := ⟨qi, 2, none⟩) (Kd.R_far (p := ⟨qi, 1, none⟩) (Kd.R_far (p := ⟨qi, 0, none⟩) (Kd.R_types qag.out qg.out (by decide)) (fun _ hk => hk.2) (.bool a0_0)) (fun _ hk => hk.2) (.slice qby qac.length qbz)) (fun _ hk => hk.2) (.slice qcg qad.length qcf)) (fun _ hk => trivial)⟩, ⟨by exact Kd.R_mono (Kd.R_far (p := ⟨qi, 2, none⟩) (Kd.R_far (p := ⟨qi, 1, none⟩) (Kd.R_far (p := ⟨qi, 0, none⟩) (Kd.R_types qah.out qg.out (by decide)) (fun _ hk => hk.2) (.bool a0_0)) (fun _ hk => hk.2) (.slice qby qac.length qbz)) (fun _ hk => hk.2) (.slice qcg qad.length qcf)) (fun _ hk => trivial)⟩, ⟨by refine blk_far ?_ qap.out _; refine blk_far ?_ qap.out _; refine blk_far ?_ qap.out _; exact qd.out⟩, ⟨by refine blk_put (cs := #[.bool a0_0, .slice qby qac.length qbz, .slice qp qc.length qo]) ?_ 2 _ rfl; refine blk_put (cs := #[.bool a0_0, .slice qm qb.length qn, .slice qp qc.length qo]) ?_ 1 _ rfl; refine blk_put (cs := #[.bool qk, .slice qm qb.length qn, .slice qp qc.length qo]) ?_ 0 _ rfl; exact qg.out⟩, ⟨by repeat (((with_reducible first | exact HB.out | refine below_set ?_ qct.out )))⟩⟩
      ·rw [if_neg c13] at H
       exact absurd H (by simp)
     ·rw [if_neg c12] at H
      exact absurd H (by simp)
    ·rw [if_neg c11] at H
     have c11b0 : decide (x5_1 < (wrap64 ((l0_1.length : Int) + (l0_2.length : Int)))) = false := decide_eq_false c11
     clear c11
     by_cases c102 : x3_1.length < 2513169434916
     ·rw [if_pos c102] at H
      have qdr := Aside0.mk c102
      clear c102
      obtain ⟨qet, qcu⟩ : ∃ y_ : List (S25), y_ = (x3_1 ++ [(⟨qk, qb, qc⟩ : S25)]) := ⟨_, rfl⟩
      replace H : (some qet) = some r := by ((rw [qcu]; with_reducible exact H))
      have qdt := Aside0.mk qcu
      clear qcu
      obtain rfl := Option.some.inj H
      have hnb103 := qap.out
      have hnc103 := qbl.out
      have hcz104_0 : wr.cell? ⟨qh, 0, none⟩ = some (.bool a0_0) := (blk_cell qd.out 0).trans rfl
      have hcz104_1 : wr.cell? ⟨qh, 1, none⟩ = some (.slice A0_1 l0_1.length c0_1) := (blk_cell qd.out 1).trans rfl
      have hcz104_2 : wr.cell? ⟨qh, 2, none⟩ = some (.slice A0_2 l0_2.length c0_2) := (blk_cell qd.out 2).trans rfl
      have hfz104_0 := blk_frozen qd.out 0
      have hfz104_1 := blk_frozen qd.out 1
      have hfz104_2 := blk_frozen qd.out 2
      have hcz105_0 : wr.cell? ⟨qi, 0, none⟩ = some (.bool qk) := (blk_cell qg.out 0).trans rfl
      have hcz105_1 : wr.cell? ⟨qi, 1, none⟩ = some (qbp) := (blk_cell qg.out 1).trans rfl
      have hcz105_2 : wr.cell? ⟨qi, 2, none⟩ = some (qbo) := (blk_cell qg.out 2).trans rfl
      have hfz105_0 := blk_frozen qg.out 0
      have hfz105_1 := blk_frozen qg.out 1
      have hfz105_2 := blk_frozen qg.out 2
      obtain ⟨qci, qcn, qeh⟩ := Kd.R_slice qe.out
      subst qeh
      obtain ⟨qco, qcm, qec⟩ := Kd.R_slice qf.out
      subst qec
      go_wp2_with (first | ((with_reducible refine gate_builtin (b := .append) (xs := #[.tmp 91, .tmp 93]) rfl ?_); at_builtin; refine Kd.S_append k25 (w0 := w) w.heap.size rfl (.tmp 91) (.tmp 93) 38 25 (.agg #[(.bool false), (.slice none 0 0), (.slice none 0 0)]) 56 rfl Try.underlying38 info25 rfl (by decide) (by omega) u3 x3_1 (⟨qk, qb, qc⟩ : S25) [.bool qk, .slice qci qb.length qcn, .slice qco qc.length qcm] (fun k_ => k_ ≠ qh ∧ k_ ≠ qi) (fun k_ => some k_ = (.slice qci qb.length qcn : Value).ownBlock ∨ some k_ = (.slice qco qc.length qcm : Value).ownBlock) rfl rfl ?aP (fun k_ hk_ => hk_.elim (fun h_ => ((Kd.R_mono (ok' := fun k_ => ((fun k_ => k_ ≠ qh ∧ k_ ≠ qi)) k_ ∧ some k_ ≠ (u3 : Value).ownBlock) (Kd.R_types (Kd.R_types (Kd.R_apart' (qe.out) (Kd.S_typed HO_3.out) (by decide)) qd.out (by decide)) qg.out (by decide)) (fun k_ hk => ⟨⟨hk.1.2, hk.2⟩, hk.1.1.2⟩))).1 k_ h_.symm) (fun h_ => ((Kd.R_mono (ok' := fun k_ => ((fun k_ => k_ ≠ qh ∧ k_ ≠ qi)) k_ ∧ some k_ ≠ (u3 : Value).ownBlock) (Kd.R_types (Kd.R_types (Kd.R_apart' (qf.out) (Kd.S_typed HO_3.out) (by decide)) qd.out (by decide)) qg.out (by decide)) (fun k_ hk => ⟨⟨hk.1.2, hk.2⟩, hk.1.1.2⟩))).1 k_ h_.symm)) ?aF ?aO ?aB ?aS ?aL ?_; (case aP => exact k25_mkM _ _ _ (⟨qk, qb, qc⟩ : S25) (Kd.R_mono (Kd.R_tight rfl (Kd.R_mono (ok' := fun k_ => ((fun k_ => k_ ≠ qh ∧ k_ ≠ qi)) k_ ∧ some k_ ≠ (u3 : Value).ownBlock) (Kd.R_types (Kd.R_types (Kd.R_apart' (qe.out) (Kd.S_typed HO_3.out) (by decide)) qd.out (by decide)) qg.out (by decide)) (fun k_ hk => ⟨⟨hk.1.2, hk.2⟩, hk.1.1.2⟩))) (fun _ h_ => Or.inl h_)) (Kd.R_mono (Kd.R_tight rfl (Kd.R_mono (ok' := fun k_ => ((fun k_ => k_ ≠ qh ∧ k_ ≠ qi)) k_ ∧ some k_ ≠ (u3 : Value).ownBlock) (Kd.R_types (Kd.R_types (Kd.R_apart' (qf.out) (Kd.S_typed HO_3.out) (by decide)) qd.out (by decide)) qg.out (by decide)) (fun k_ hk => ⟨⟨hk.1.2, hk.2⟩, hk.1.1.2⟩))) (fun _ h_ => Or.inr (h_)))); (case aB => exact (by repeat (((with_reducible (exact HB.out)))))); (case aF => exact (fun k_ hk => ⟨Kd.freshB (g := qh) (o := .cells #[.bool a0_0, .slice A0_1 l0_1.length c0_1, .slice A0_2 l0_2.length c0_2] 25 (0, 0)) (by exact qd.out) k_ hk, Kd.freshB (g := qi) (o := .cells #[.bool qk, .slice qci qb.length qcn, .slice qco qc.length qcm] 25 (0, 0)) (by exact qg.out) k_ hk⟩)); (case aO => exact (by exact Kd.S_mono HO_3.out (fun k_ hk => ⟨⟨hk.2.2.1, hk.2.2.2⟩, fun e_ => e_.elim (fun h_ => hk.1 h_) (fun h_ => hk.2.1 h_)⟩))); (case aS => exact (below_size (by repeat (((with_reducible (exact HB.out))))))); (case aL => have := qdr.out; omega); intro qfb w106 ho hb hg hat; rw [← qdt.out] at ho; have n0_ := Aside0.mk (blk_grown (g := qh) (o := .cells #[.bool a0_0, .slice A0_1 l0_1.length c0_1, .slice A0_2 l0_2.length c0_2] 25 (0, 0)) (by exact qd.out) hg (Kd.S_away HO_3.out (fun _ hk => hk.2.2.1))); have n1_ := Aside0.mk (blk_grown (g := qi) (o := .cells #[.bool qk, .slice qci qb.length qcn, .slice qco qc.length qcm] 25 (0, 0)) (by exact qg.out) hg (Kd.S_away HO_3.out (fun _ hk => hk.2.2.2))); have n2_ := Aside0.mk (hb); have n3_ := Aside0.mk (ho); clear qd; clear qg; clear HB; clear HO_3; clear qe; clear qf; have qd := n0_; have qg := n1_; have HB := n2_; have qeb := n3_; clear n0_ n1_ n2_ n3_; clear ho hb hg hat))
      go_ret
      exact ⟨_, by (rfl), by exact Kd.S_mono qeb.out (fun _ hk => trivial), by repeat (((with_reducible (exact HB.out))))⟩
     ·rw [if_neg c102] at H
      exact absurd H (by simp)
 ·replace c3 := Bool.eq_false_iff.mpr c3
  subst c3
  have H1 : (some ([] : List (S25))) = some r := by rw [if_neg (show ¬ (false = true) by decide)] at H; exact H
  clear H
  have H := H1
  clear H1
  obtain rfl := Option.some.inj H
  go_enter Try.func20, Try.ntmps20
  go_wp2_with (first | ((with_reducible refine gate_dst (N := 1) rfl ?_); refine box_event ?hg (N := 1) ?hd (cs := #[.bool a0_0, .slice A0_1 l0_1.length c0_1, .slice A0_2 l0_2.length c0_2]) (t := 25) ?hr ?_; (case hd => rfl); (case hg => rfl); (case hr => ((go_simp; done))); intro qh hg w109 hbox hb; have n0_ := Aside0.mk (below_step (by repeat (((with_reducible (exact HB.out))))) hb); have n1_ := Aside0.mk (hbox); have n2_ := Aside0.mk ((by rw [hg]; exact (below_size (by repeat (((with_reducible (exact HB.out)))))) : w.heap.size ≤ qh)); have n3_ := Aside0.mk ((by rw [hg]; exact (below_size (by repeat (((with_reducible (exact HB.out)))))) : w.heap.size ≤ qh)); clear HB; have HB := n0_; have qd := n1_; have GW199 := n2_; have qdz := n3_; clear n0_ n1_ n2_ n3_; clear hb hbox hg; have hcz110_0 : w109.cell? ⟨qh, 0, none⟩ = some (.bool a0_0) := (blk_cell qd.out 0).trans rfl; have hcz110_1 : w109.cell? ⟨qh, 1, none⟩ = some (.slice A0_1 l0_1.length c0_1) := (blk_cell qd.out 1).trans rfl; have hcz110_2 : w109.cell? ⟨qh, 2, none⟩ = some (.slice A0_2 l0_2.length c0_2) := (blk_cell qd.out 2).trans rfl; have hfz110_0 := blk_frozen qd.out 0; have hfz110_1 := blk_frozen qd.out 1; have hfz110_2 := blk_frozen qd.out 2) | ((with_reducible refine gate_callee (f := 28) rfl ?_); refine goesL_ (some 9) rfl rfl Try.func28 (by kernel_rfl) rfl #[.agg #[.bool a0_0, .slice A0_1 l0_1.length c0_1, .slice A0_2 l0_2.length c0_2]] rfl (by (try simp only [List.map_toArray, List.map_cons, List.map_nil]); (rfl)) ?_; (with_reducible refine (coppiceref06_Right.calls k a0_0 _ _ l0_1 _ _ l0_2 false _ ?side1 ?side2 ?side3 ?side4 A2.out).mono ?_); (case side1 => repeat ((exact (Kd.C_below HR0_1.out HB.out)))); (case side2 => exact HC0_1.out); (case side3 => repeat ((exact (Kd.C_below HR0_2.out HB.out)))); (case side4 => exact HC0_2.out); rintro e w111 ⟨rfl, hb⟩; refine ⟨_, rfl, ?_⟩; have n0_ := Aside0.mk (blk_below (g := qh) (o := .cells #[.bool a0_0, .slice A0_1 l0_1.length c0_1, .slice A0_2 l0_2.length c0_2] 25 (0, 0)) (by exact qd.out) hb); have n1_ := Aside0.mk (below_step (by repeat (((with_reducible (exact HB.out))))) hb); clear qd; clear HB; have qd := n0_; have HB := n1_; clear n0_ n1_; (try clear hb); (try clear hb2); (try clear hk); (try clear hi)))
  go_ret
  exact ⟨_, by (rfl), by (exact Kd.S_nil _ _ _ _ _), by repeat (((with_reducible (exact HB.out))))⟩

end Go.Proofs.Ytdkbikaheagbfaa.PT
