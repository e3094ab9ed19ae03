-- WRITTEN BY a program of this session (pp.sh)
import Derived.Test.YtdkbikaheagbfaaPTx0
import Derived.Test.YtdkbikaheagbfaaPTx1
import Derived.Test.YtdkbikaheagbfaaPTx2
namespace Go.Proofs.Ytdkbikaheagbfaa.PT
open Go.RowKit Go.Proofs.YtdkbikaheagbfaaW.PrintWords Go.Proofs.YtdkbikaheagbfaaW.PrintLast Go.Proofs.YtdkbikaheagbfaaW.PrintMore Go.Proofs.Ytdkbikaheagbfaa.Plain
attribute [local go_sem] max2_int min2_int max_two min_two max_three min_three max_four min_four binOp_leq_s binOp_gtr_s binOp_geq_s lit_byte   -- for this text's walks alone
set_option linter.unusedVariables false
set_option linter.unusedSimpArgs false

attribute [local go_sem high] eqA44 eqA46
/-! ### coppiceref06_Same: function 21 -/
mutual
def coppiceref06_Same.j0 : Nat → Bool → Bool → List (S44) → List (S46) → Bool → List (S44) → List (S46) → Option (Bool)
 | 0, _, _, _, _, _, _, _ => none
 | k + 1, x29, x240000, x240001, x240002, x241000, x241001, x241002 => if x29 = true then (some false) else (coppiceref06_Same.l0 k 0 x240000 x240001 x240002 x241000 x241001 x241002)
def coppiceref06_Same.l0 : Nat → Int → Bool → List (S44) → List (S46) → Bool → List (S44) → List (S46) → Option (Bool)
 | 0, _, _, _, _, _, _, _ => none
 | k + 1, x5, x240000, x240001, x240002, x241000, x241001, x241002 => if x5 < (x240001.length : Int) then (if 0 ≤ x5 then (if x5 < (x241001.length : Int) then (if (!((((rd_T44 x240001 x5).f0).toList) == (((rd_T44 x241001 x5).f0).toList)) || (!((((rd_T44 x240001 x5).f1).toList) == (((rd_T44 x241001 x5).f1).toList)))) = true then (some false) else (coppiceref06_Same.l0 k (wrap64 (x5 + 1)) x240000 x240001 x240002 x241000 x241001 x241002)) else (none)) else (none)) else (coppiceref06_Same.l1 k 0 x240000 x240001 x240002 x241000 x241001 x241002)
def coppiceref06_Same.l1 : Nat → Int → Bool → List (S44) → List (S46) → Bool → List (S44) → List (S46) → Option (Bool)
 | 0, _, _, _, _, _, _, _ => none
 | k + 1, x6, x240000, x240001, x240002, x241000, x241001, x241002 => if x6 < (x240002.length : Int) then (if 0 ≤ x6 then (if x6 < (x241002.length : Int) then (if (!((((rd_T46 x240002 x6).f0).toList) == (((rd_T46 x241002 x6).f0).toList)) || (!(((rd_T46 x240002 x6).f1) == ((rd_T46 x241002 x6).f1)))) = true then (some false) else (coppiceref06_Same.l1 k (wrap64 (x6 + 1)) x240000 x240001 x240002 x241000 x241001 x241002)) else (none)) else (none)) else (some true)
end
def coppiceref06_Same.f (k : Nat) (a0_0 : Bool) (l0_1 : List (S44)) (l0_2 : List (S46)) (a1_0 : Bool) (l1_1 : List (S44)) (l1_2 : List (S46)) : Option (Bool) := if (a0_0 != a1_0) = true then (coppiceref06_Same.j0 k true a0_0 l0_1 l0_2 a1_0 l1_1 l1_2) else (if (l0_1.length : Int) = (l1_1.length : Int) then (coppiceref06_Same.j0 k ((l0_2.length : Int) != (l1_2.length : Int)) a0_0 l0_1 l0_2 a1_0 l1_1 l1_2) else (coppiceref06_Same.j0 k true a0_0 l0_1 l0_2 a1_0 l1_1 l1_2))
theorem coppiceref06_Same.mono_l : ∀ k, (∀ y0 y1 y2 y3 y4 y5 y6, LeO (coppiceref06_Same.j0 k y0 y1 y2 y3 y4 y5 y6) (coppiceref06_Same.j0 (k + 1) y0 y1 y2 y3 y4 y5 y6)) ∧ (∀ y0 y1 y2 y3 y4 y5 y6, LeO (coppiceref06_Same.l0 k y0 y1 y2 y3 y4 y5 y6) (coppiceref06_Same.l0 (k + 1) y0 y1 y2 y3 y4 y5 y6)) ∧ (∀ y0 y1 y2 y3 y4 y5 y6, LeO (coppiceref06_Same.l1 k y0 y1 y2 y3 y4 y5 y6) (coppiceref06_Same.l1 (k + 1) y0 y1 y2 y3 y4 y5 y6))
 | 0 => ⟨fun _ _ _ _ _ _ _ r h => by simp [coppiceref06_Same.j0] at h, fun _ _ _ _ _ _ _ r h => by simp [coppiceref06_Same.l0] at h, fun _ _ _ _ _ _ _ r h => by simp [coppiceref06_Same.l1] at h⟩
 | k + 1 => by
  obtain ⟨ih0, ih1, ih2⟩ := coppiceref06_Same.mono_l k
  refine ⟨?_, ?_, ?_⟩
  ·intro y0 y1 y2 y3 y4 y5 y6
   unfold coppiceref06_Same.j0
   repeat' first
   | (with_reducible exact ih1 _ _ _ _ _ _ _)
   | (with_reducible exact LeO.refl _)
   | (with_reducible refine LeO.ite ?_ ?_)
  ·intro y0 y1 y2 y3 y4 y5 y6
   unfold coppiceref06_Same.l0
   repeat' first
   | (with_reducible exact ih1 _ _ _ _ _ _ _)
   | (with_reducible exact ih2 _ _ _ _ _ _ _)
   | (with_reducible exact LeO.refl _)
   | (with_reducible refine LeO.ite ?_ ?_)
  ·intro y0 y1 y2 y3 y4 y5 y6
   unfold coppiceref06_Same.l1
   repeat' first
   | (with_reducible exact ih2 _ _ _ _ _ _ _)
   | (with_reducible exact LeO.refl _)
   | (with_reducible refine LeO.ite ?_ ?_)
theorem coppiceref06_Same.mono : ∀ a0 a1 a2 a3 a4 a5 k, LeO (coppiceref06_Same.f k a0 a1 a2 a3 a4 a5) (coppiceref06_Same.f (k + 1) a0 a1 a2 a3 a4 a5) := by
 intro a0 a1 a2 a3 a4 a5 k
 obtain ⟨ih0, ih1, ih2⟩ := coppiceref06_Same.mono_l k
 unfold coppiceref06_Same.f
 repeat' first
   | (with_reducible exact ih0 _ _ _ _ _ _ _)
   | (with_reducible refine LeO.ite ?_ ?_)
set_option maxHeartbeats 8000000 in
set_option maxRecDepth 100000 in
theorem coppiceref06_Same.calls (k : Nat) (a0_0 : Bool) (A0_1 : Option Addr) (c0_1 : Nat) (l0_1 : List (S44)) (A0_2 : Option Addr) (c0_2 : Nat) (l0_2 : List (S46)) (a1_0 : Bool) (A1_1 : Option Addr) (c1_1 : Nat) (l1_1 : List (S44)) (A1_2 : Option Addr) (c1_2 : Nat) (l1_2 : List (S46)) (r : Bool) (w : World) (hr0_1 : Kd.C k44 w A0_1 l0_1.length l0_1) (hc0_1 : l0_1.length ≤ c0_1) (hr0_2 : Kd.C k46 w A0_2 l0_2.length l0_2) (hc0_2 : l0_2.length ≤ c0_2) (hr1_1 : Kd.C k44 w A1_1 l1_1.length l1_1) (hc1_1 : l1_1.length ≤ c1_1) (hr1_2 : Kd.C k46 w A1_2 l1_2.length l1_2) (hc1_2 : l1_2.length ≤ c1_2) (h : coppiceref06_Same.f k a0_0 l0_1 l0_2 a1_0 l1_1 l1_2 = some r) :
  Calls Try.prog 21 #[.agg #[.bool a0_0, .slice A0_1 l0_1.length c0_1, .slice A0_2 l0_2.length c0_2], .agg #[.bool a1_0, .slice A1_1 l1_1.length c1_1, .slice A1_2 l1_2.length c1_2]] w fun e w' => e = .returned (.bool r) ∧ Below w.heap.size w w' := by
 have hu25 := Try.underlying25
 have hu44 := Try.underlying44
 have hu46 := Try.underlying46
 have HR0_1 := Aside0.mk hr0_1
 have HC0_1 := Aside0.mk hc0_1
 clear hr0_1 hc0_1
 have HR0_2 := Aside0.mk hr0_2
 have HC0_2 := Aside0.mk hc0_2
 clear hr0_2 hc0_2
 have HR1_1 := Aside0.mk hr1_1
 have HC1_1 := Aside0.mk hc1_1
 clear hr1_1 hc1_1
 have HR1_2 := Aside0.mk hr1_2
 have HC1_2 := Aside0.mk hc1_2
 clear hr1_2 hc1_2
 have HB := Aside0.mk (Below.refl w.heap.size w)
 have H : (if (a0_0 != a1_0) = true then (coppiceref06_Same.j0 k true a0_0 l0_1 l0_2 a1_0 l1_1 l1_2) else (if (l0_1.length : Int) = (l1_1.length : Int) then (coppiceref06_Same.j0 k ((l0_2.length : Int) != (l1_2.length : Int)) a0_0 l0_1 l0_2 a1_0 l1_1 l1_2) else (coppiceref06_Same.j0 k true a0_0 l0_1 l0_2 a1_0 l1_1 l1_2))) = some r := h
 clear h
 have HC3 := Aside0.mk H
 clear H
 go_enter Try.func21, Try.ntmps21
 go_upto_region 1 with (first | ((with_reducible refine gate_dst (N := 2) rfl ?_); (try (refine gate_guard (by rfl) ?_; dsimp only)); refine box_event ?hg (N := 2) ?hd (cs := #[.bool a0_0, .slice A0_1 l0_1.length c0_1, .slice A0_2 l0_2.length c0_2]) (t := 25) ?hr ?_; (case hd => rfl); (case hg => rfl); (case hr => ((go_simp; done))); intro qd hg w4 hbox hb; have n0_ := Aside0.mk (below_step (by repeat (((with_reducible (exact HB.out))))) hb); have n1_ := Aside0.mk (hbox); have n2_ := Aside0.mk ((by rw [hg]; exact (below_size (by repeat (((with_reducible (exact HB.out)))))) : w.heap.size ≤ qd)); have n3_ := Aside0.mk ((by rw [hg]; exact (below_size (by repeat (((with_reducible (exact HB.out)))))) : w.heap.size ≤ qd)); clear HB; have HB := n0_; have qb := n1_; have GW239 := n2_; have qj := n3_; clear n0_ n1_ n2_ n3_; clear hb hbox hg) | ((with_reducible refine gate_dst (N := 3) rfl ?_); (try (refine gate_guard (by rfl) ?_; dsimp only)); refine box_event ?hg (N := 3) ?hd (cs := #[.bool a1_0, .slice A1_1 l1_1.length c1_1, .slice A1_2 l1_2.length c1_2]) (t := 25) ?hr ?_; (case hd => rfl); (case hg => rfl); (case hr => ((go_simp; done))); intro qe hg w5 hbox hb; have n0_ := Aside0.mk (blk_below (g := qd) (o := .cells #[.bool a0_0, .slice A0_1 l0_1.length c0_1, .slice A0_2 l0_2.length c0_2] 25 (0, 0)) (by exact qb.out) hb); have n1_ := Aside0.mk (below_step (by repeat (((with_reducible (exact HB.out))))) hb); have n2_ := Aside0.mk (hbox); have n3_ := Aside0.mk ((by rw [hg]; exact (below_size (by repeat (((with_reducible (exact HB.out)))))) : w.heap.size ≤ qe)); have n4_ := Aside0.mk ((by rw [hg]; exact (below_size (by repeat (((with_reducible (exact HB.out)))))) : w.heap.size ≤ qe)); have n5_ := Aside0.mk ((by rw [hg]; exact Nat.ne_of_lt (blk_lt (g := qd) (o := .cells #[.bool a0_0, .slice A0_1 l0_1.length c0_1, .slice A0_2 l0_2.length c0_2] 25 (0, 0)) (by exact qb.out)) : qd ≠ qe)); have n6_ := Aside0.mk ((by rw [hg]; exact Nat.ne_of_gt (blk_lt (g := qd) (o := .cells #[.bool a0_0, .slice A0_1 l0_1.length c0_1, .slice A0_2 l0_2.length c0_2] 25 (0, 0)) (by exact qb.out)) : qe ≠ qd)); clear qb; clear HB; have qb := n0_; have HB := n1_; have qc := n2_; have GW240 := n3_; have qk := n4_; have qg := n5_; have qf := n6_; clear n0_ n1_ n2_ n3_ n4_ n5_ n6_; clear hb hbox hg))
 repeat (go_quiet (fail); go_upto_region 1 with (fail))
 (try simp only [Act.put, List.setIfInBounds_toArray, List.set_cons_zero, List.set_cons_succ])
 go_cut [29] (fun qi wc => ∃ (kq : Nat) (qh : Bool), qi = .bool qh ∧ Aside0 (coppiceref06_Same.j0 kq qh a0_0 l0_1 l0_2 a1_0 l1_1 l1_2 = some r) ∧ Aside0 (kq ≤ k) ∧ Aside0 (wc.heap[qd]? = some (.cells #[.bool a0_0, (.slice A0_1 l0_1.length c0_1), (.slice A0_2 l0_2.length c0_2)] 25 (0, 0))) ∧ Aside0 (wc.heap[qe]? = some (.cells #[.bool a1_0, (.slice A1_1 l1_1.length c1_1), (.slice A1_2 l1_2.length c1_2)] 25 (0, 0))) ∧ Aside0 (Below w.heap.size w wc))
 case first =>
  have H := HC3.out
  clear HC3
  by_cases c6 : (a0_0 != a1_0) = true
  ·rw [if_pos c6] at H
   have c6b0 : (a0_0 != a1_0) = true := c6
   (try (have c6b1 : decide (a0_0 = a1_0) = false := by simpa using c6))
   (try (have c6b2 : (a0_0 == a1_0) = false := by simpa using c6))
   (try (have c6b3 : ¬ (a0_0 = a1_0) := by simpa using c6))
   clear c6
   ((skip))
   have H' := Aside0.mk H
   clear H
   have hnb7 := qg.out
   have hnc7 := qf.out
   have hcz8_0 : w5.cell? ⟨qd, 0, none⟩ = some (.bool a0_0) := (blk_cell qb.out 0).trans rfl
   have hcz8_1 : w5.cell? ⟨qd, 1, none⟩ = some (.slice A0_1 l0_1.length c0_1) := (blk_cell qb.out 1).trans rfl
   have hcz8_2 : w5.cell? ⟨qd, 2, none⟩ = some (.slice A0_2 l0_2.length c0_2) := (blk_cell qb.out 2).trans rfl
   have hfz8_0 := blk_frozen qb.out 0
   have hfz8_1 := blk_frozen qb.out 1
   have hfz8_2 := blk_frozen qb.out 2
   have hcz9_0 : w5.cell? ⟨qe, 0, none⟩ = some (.bool a1_0) := (blk_cell qc.out 0).trans rfl
   have hcz9_1 : w5.cell? ⟨qe, 1, none⟩ = some (.slice A1_1 l1_1.length c1_1) := (blk_cell qc.out 1).trans rfl
   have hcz9_2 : w5.cell? ⟨qe, 2, none⟩ = some (.slice A1_2 l1_2.length c1_2) := (blk_cell qc.out 2).trans rfl
   have hfz9_0 := blk_frozen qc.out 0
   have hfz9_1 := blk_frozen qc.out 1
   have hfz9_2 := blk_frozen qc.out 2
   go_wp2
   repeat (go_quiet (fail); try go_wp2)
   go_meet
   case rel => exact ⟨_, (true), (by (rfl)), H', ⟨by (omega)⟩, ⟨by exact qb.out⟩, ⟨by exact qc.out⟩, ⟨by repeat (((with_reducible (exact HB.out))))⟩⟩
  ·rw [if_neg c6] at H
   have c6b0 : (a0_0 != a1_0) = false := by simpa using c6
   (try (have c6b1 : decide (a0_0 = a1_0) = true := by simpa using c6))
   (try (have c6b2 : (a0_0 == a1_0) = true := by simpa using c6))
   clear c6
   ((skip))
   by_cases c10 : (l0_1.length : Int) = (l1_1.length : Int)
   ·rw [if_pos c10] at H
    have c10b0 : ((l0_1.length : Int) == (l1_1.length : Int)) = true := beq_iff_eq.mpr c10
    have c10b1 : ((l0_1.length : Int) != (l1_1.length : Int)) = false := bne_eq_false_iff_eq.mpr c10
    have c10b2 : (l0_1.length == l1_1.length) = true := by ((simp at c10 ⊢; omega))
    clear c10
    have H' := Aside0.mk H
    clear H
    have hnb11 := qg.out
    have hnc11 := qf.out
    have hcz12_0 : w5.cell? ⟨qd, 0, none⟩ = some (.bool a0_0) := (blk_cell qb.out 0).trans rfl
    have hcz12_1 : w5.cell? ⟨qd, 1, none⟩ = some (.slice A0_1 l0_1.length c0_1) := (blk_cell qb.out 1).trans rfl
    have hcz12_2 : w5.cell? ⟨qd, 2, none⟩ = some (.slice A0_2 l0_2.length c0_2) := (blk_cell qb.out 2).trans rfl
    have hfz12_0 := blk_frozen qb.out 0
    have hfz12_1 := blk_frozen qb.out 1
    have hfz12_2 := blk_frozen qb.out 2
    have hcz13_0 : w5.cell? ⟨qe, 0, none⟩ = some (.bool a1_0) := (blk_cell qc.out 0).trans rfl
    have hcz13_1 : w5.cell? ⟨qe, 1, none⟩ = some (.slice A1_1 l1_1.length c1_1) := (blk_cell qc.out 1).trans rfl
    have hcz13_2 : w5.cell? ⟨qe, 2, none⟩ = some (.slice A1_2 l1_2.length c1_2) := (blk_cell qc.out 2).trans rfl
    have hfz13_0 := blk_frozen qc.out 0
    have hfz13_1 := blk_frozen qc.out 1
    have hfz13_2 := blk_frozen qc.out 2
    go_wp2
    repeat (go_quiet (fail); try go_wp2)
    go_meet
    case rel => exact ⟨_, (((l0_2.length : Int) != (l1_2.length : Int))), (by (rfl)), H', ⟨by (omega)⟩, ⟨by exact qb.out⟩, ⟨by exact qc.out⟩, ⟨by repeat (((with_reducible (exact HB.out))))⟩⟩
   ·rw [if_neg c10] at H
    have c10b0 : ((l0_1.length : Int) == (l1_1.length : Int)) = false := beq_eq_false_iff_ne.mpr c10
    have c10b1 : ((l0_1.length : Int) != (l1_1.length : Int)) = true := bne_iff_ne.mpr c10
    have c10b2 : (l0_1.length == l1_1.length) = false := by ((simp at c10 ⊢; omega))
    have H' := Aside0.mk H
    clear H
    have hnb14 := qg.out
    have hnc14 := qf.out
    have hcz15_0 : w5.cell? ⟨qd, 0, none⟩ = some (.bool a0_0) := (blk_cell qb.out 0).trans rfl
    have hcz15_1 : w5.cell? ⟨qd, 1, none⟩ = some (.slice A0_1 l0_1.length c0_1) := (blk_cell qb.out 1).trans rfl
    have hcz15_2 : w5.cell? ⟨qd, 2, none⟩ = some (.slice A0_2 l0_2.length c0_2) := (blk_cell qb.out 2).trans rfl
    have hfz15_0 := blk_frozen qb.out 0
    have hfz15_1 := blk_frozen qb.out 1
    have hfz15_2 := blk_frozen qb.out 2
    have hcz16_0 : w5.cell? ⟨qe, 0, none⟩ = some (.bool a1_0) := (blk_cell qc.out 0).trans rfl
    have hcz16_1 : w5.cell? ⟨qe, 1, none⟩ = some (.slice A1_1 l1_1.length c1_1) := (blk_cell qc.out 1).trans rfl
    have hcz16_2 : w5.cell? ⟨qe, 2, none⟩ = some (.slice A1_2 l1_2.length c1_2) := (blk_cell qc.out 2).trans rfl
    have hfz16_0 := blk_frozen qc.out 0
    have hfz16_1 := blk_frozen qc.out 1
    have hfz16_2 := blk_frozen qc.out 2
    go_wp2
    repeat (go_quiet (fail); try go_wp2)
    go_meet
    case rel => exact ⟨_, (true), (by (rfl)), H', ⟨by (omega)⟩, ⟨by exact qb.out⟩, ⟨by exact qc.out⟩, ⟨by repeat (((with_reducible (exact HB.out))))⟩⟩
 case rest =>
  clear HC3
  try clear c1
  try clear c2
  try clear p2
  try clear c6
  try clear c6b0
  try clear c6b1
  try clear c6b2
  try clear c7
  try clear c10
  try clear c10b0
  try clear c10b1
  try clear c10b2
  try clear c11
  try clear c14
  try clear hcz12_0
  try clear hcz12_1
  try clear hcz12_2
  try clear hcz13_0
  try clear hcz13_1
  try clear hcz13_2
  try clear hcz15_0
  try clear hcz15_1
  try clear hcz15_2
  try clear hcz16_0
  try clear hcz16_1
  try clear hcz16_2
  try clear hcz8_0
  try clear hcz8_1
  try clear hcz8_2
  try clear hcz9_0
  try clear hcz9_1
  try clear hcz9_2
  try clear hfz12_0
  try clear hfz12_1
  try clear hfz12_2
  try clear hfz13_0
  try clear hfz13_1
  try clear hfz13_2
  try clear hfz15_0
  try clear hfz15_1
  try clear hfz15_2
  try clear hfz16_0
  try clear hfz16_1
  try clear hfz16_2
  try clear hfz8_0
  try clear hfz8_1
  try clear hfz8_2
  try clear hfz9_0
  try clear hfz9_1
  try clear hfz9_2
  obtain ⟨kq, qh, rfl, HA, HJ2, qb, qc, HB⟩ := hcut
  cases kq with
  | zero => exact absurd HA.out (by simp [coppiceref06_Same.j0])
  | succ kj2 =>
   have H := HA.out
   clear HA
   simp only [coppiceref06_Same.j0] at H
   by_cases c17 : qh = true
   ·subst c17
    have H1 : (some false) = some r := by rw [if_pos rfl] at H; exact H
    clear H
    have H := H1
    clear H1
    obtain rfl := Option.some.inj H
    go_wp2
    repeat (go_quiet (fail); try go_wp2)
    go_ret
    exact ⟨by (rfl), by repeat (((with_reducible (exact HB.out))))⟩
   ·replace c17 := Bool.eq_false_iff.mpr c17
    subst c17
    have H1 : (coppiceref06_Same.l0 kj2 0 a0_0 l0_1 l0_2 a1_0 l1_1 l1_2) = some r := by rw [if_neg (show ¬ (false = true) by decide)] at H; exact H
    clear H
    have H := H1
    clear H1
    have H' := Aside0.mk H
    clear H
    go_wp2
    repeat (go_quiet (fail); try go_wp2)
    go_loopg [5] kj2 (fun kq v5 w' => ∃ (x5_2 : Int), v5 = .int .i64 x5_2 ∧ Aside0 (coppiceref06_Same.l0 kq x5_2 a0_0 l0_1 l0_2 a1_0 l1_1 l1_2 = some r) ∧ Aside0 (kq ≤ kj2) ∧ Aside0 (w'.heap[qd]? = some (.cells #[.bool a0_0, (.slice A0_1 l0_1.length c0_1), (.slice A0_2 l0_2.length c0_2)] 25 (0, 0))) ∧ Aside0 (w'.heap[qe]? = some (.cells #[.bool a1_0, (.slice A1_1 l1_1.length c1_1), (.slice A1_2 l1_2.length c1_2)] 25 (0, 0))) ∧ Aside0 (Below w.heap.size w w'))
    case atStart => exact ⟨(0), (by (rfl)), H', ⟨Nat.le_refl _⟩, ⟨by exact qb.out⟩, ⟨by exact qc.out⟩, ⟨by repeat (((with_reducible (exact HB.out))))⟩⟩
    case round =>
     clear H'
     try clear c1
     try clear c2
     try clear p2
     try clear c6
     try clear c6b0
     try clear c6b1
     try clear c6b2
     try clear c7
     try clear c10
     try clear c10b0
     try clear c10b1
     try clear c10b2
     try clear c11
     try clear c14
     try clear c17
     try clear hcz12_0
     try clear hcz12_1
     try clear hcz12_2
     try clear hcz13_0
     try clear hcz13_1
     try clear hcz13_2
     try clear hcz15_0
     try clear hcz15_1
     try clear hcz15_2
     try clear hcz16_0
     try clear hcz16_1
     try clear hcz16_2
     try clear hcz8_0
     try clear hcz8_1
     try clear hcz8_2
     try clear hcz9_0
     try clear hcz9_1
     try clear hcz9_2
     try clear hfz12_0
     try clear hfz12_1
     try clear hfz12_2
     try clear hfz13_0
     try clear hfz13_1
     try clear hfz13_2
     try clear hfz15_0
     try clear hfz15_1
     try clear hfz15_2
     try clear hfz16_0
     try clear hfz16_1
     try clear hfz16_2
     try clear hfz8_0
     try clear hfz8_1
     try clear hfz8_2
     try clear hfz9_0
     try clear hfz9_1
     try clear hfz9_2
     try clear p2
     obtain ⟨x5_2, rfl, HA, HK2, qb, qc, HB⟩ := hrel
     cases gk with
     | zero => exact absurd HA.out (by simp [coppiceref06_Same.l0])
     | succ k2 =>
      have H := HA.out
      clear HA
      simp only [coppiceref06_Same.l0] at H
      by_cases c18 : x5_2 < (l0_1.length : Int)
      ·rw [if_pos c18] at H
       have c18b0 : decide (x5_2 < (l0_1.length : Int)) = true := decide_eq_true c18
       clear c18
       by_cases c19 : 0 ≤ x5_2
       ·rw [if_pos c19] at H
        have c19b0 : decide (0 ≤ x5_2) = true := decide_eq_true c19
        clear c19
        by_cases c20 : x5_2 < (l1_1.length : Int)
        ·rw [if_pos c20] at H
         have c20b0 : decide (x5_2 < (l1_1.length : Int)) = true := decide_eq_true c20
         clear c20
         by_cases c21 : (!((((rd_T44 l0_1 x5_2).f0).toList) == (((rd_T44 l1_1 x5_2).f0).toList)) || (!((((rd_T44 l0_1 x5_2).f1).toList) == (((rd_T44 l1_1 x5_2).f1).toList)))) = true
         ·rw [if_pos c21] at H
          have c21b0 : (!((((rd_T44 l0_1 x5_2).f0).toList) == (((rd_T44 l1_1 x5_2).f0).toList)) || (!((((rd_T44 l0_1 x5_2).f1).toList) == (((rd_T44 l1_1 x5_2).f1).toList)))) = true := c21
          clear c21
          obtain rfl := Option.some.inj H
          have hnb22 := qg.out
          have hnc22 := qf.out
          have hcz23_0 : wr.cell? ⟨qd, 0, none⟩ = some (.bool a0_0) := (blk_cell qb.out 0).trans rfl
          have hcz23_1 : wr.cell? ⟨qd, 1, none⟩ = some (.slice A0_1 l0_1.length c0_1) := (blk_cell qb.out 1).trans rfl
          have hcz23_2 : wr.cell? ⟨qd, 2, none⟩ = some (.slice A0_2 l0_2.length c0_2) := (blk_cell qb.out 2).trans rfl
          have hfz23_0 := blk_frozen qb.out 0
          have hfz23_1 := blk_frozen qb.out 1
          have hfz23_2 := blk_frozen qb.out 2
          have p241 : 0 ≤ (x5_2 : Int) := of_decide_eq_true (by ((with_reducible assumption)))
          have q241 : x5_2 < (l0_1.length : Int) := of_decide_eq_true (by ((with_reducible assumption)))
          obtain ⟨ad241, e241, hx241_0, hx241_1⟩ := at_T44 HR0_1.out x5_2 p241 q241
          cases e241
          replace hx241_0 := (HB.out.cell (World.block_lt_of_cell? w _ hx241_0)).trans hx241_0
          replace hx241_1 := (HB.out.cell (World.block_lt_of_cell? w _ hx241_1)).trans hx241_1
          replace p241 := eq_true p241
          replace q241 := eq_true q241
          have hcz24_0 : wr.cell? ⟨qe, 0, none⟩ = some (.bool a1_0) := (blk_cell qc.out 0).trans rfl
          have hcz24_1 : wr.cell? ⟨qe, 1, none⟩ = some (.slice A1_1 l1_1.length c1_1) := (blk_cell qc.out 1).trans rfl
          have hcz24_2 : wr.cell? ⟨qe, 2, none⟩ = some (.slice A1_2 l1_2.length c1_2) := (blk_cell qc.out 2).trans rfl
          have hfz24_0 := blk_frozen qc.out 0
          have hfz24_1 := blk_frozen qc.out 1
          have hfz24_2 := blk_frozen qc.out 2
          have p242 : 0 ≤ (x5_2 : Int) := of_decide_eq_true (by ((with_reducible assumption)))
          have q242 : x5_2 < (l1_1.length : Int) := of_decide_eq_true (by ((with_reducible assumption)))
          obtain ⟨ad242, e242, hx242_0, hx242_1⟩ := at_T44 HR1_1.out x5_2 p242 q242
          cases e242
          replace hx242_0 := (HB.out.cell (World.block_lt_of_cell? w _ hx242_0)).trans hx242_0
          replace hx242_1 := (HB.out.cell (World.block_lt_of_cell? w _ hx242_1)).trans hx242_1
          replace p242 := eq_true p242
          replace q242 := eq_true q242
          go_wp2
          repeat (go_quiet (fail); try go_wp2)
          go_ret
          exact ⟨by (rfl), by repeat (((with_reducible first | exact HB.out | apply pw_below_drewN )))⟩
         ·rw [if_neg c21] at H
          have c21b0 : (!((((rd_T44 l0_1 x5_2).f0).toList) == (((rd_T44 l1_1 x5_2).f0).toList)) || (!((((rd_T44 l0_1 x5_2).f1).toList) == (((rd_T44 l1_1 x5_2).f1).toList)))) = false := by simpa using c21
          clear c21
          have H' := Aside0.mk H
          clear H
          have hnb25 := qg.out
          have hnc25 := qf.out
          have hcz26_0 : wr.cell? ⟨qd, 0, none⟩ = some (.bool a0_0) := (blk_cell qb.out 0).trans rfl
          have hcz26_1 : wr.cell? ⟨qd, 1, none⟩ = some (.slice A0_1 l0_1.length c0_1) := (blk_cell qb.out 1).trans rfl
          have hcz26_2 : wr.cell? ⟨qd, 2, none⟩ = some (.slice A0_2 l0_2.length c0_2) := (blk_cell qb.out 2).trans rfl
          have hfz26_0 := blk_frozen qb.out 0
          have hfz26_1 := blk_frozen qb.out 1
          have hfz26_2 := blk_frozen qb.out 2
          have p241 : 0 ≤ (x5_2 : Int) := of_decide_eq_true (by ((with_reducible assumption)))
          have q241 : x5_2 < (l0_1.length : Int) := of_decide_eq_true (by ((with_reducible assumption)))
          obtain ⟨ad241, e241, hx241_0, hx241_1⟩ := at_T44 HR0_1.out x5_2 p241 q241
          cases e241
          replace hx241_0 := (HB.out.cell (World.block_lt_of_cell? w _ hx241_0)).trans hx241_0
          replace hx241_1 := (HB.out.cell (World.block_lt_of_cell? w _ hx241_1)).trans hx241_1
          replace p241 := eq_true p241
          replace q241 := eq_true q241
          have hcz27_0 : wr.cell? ⟨qe, 0, none⟩ = some (.bool a1_0) := (blk_cell qc.out 0).trans rfl
          have hcz27_1 : wr.cell? ⟨qe, 1, none⟩ = some (.slice A1_1 l1_1.length c1_1) := (blk_cell qc.out 1).trans rfl
          have hcz27_2 : wr.cell? ⟨qe, 2, none⟩ = some (.slice A1_2 l1_2.length c1_2) := (blk_cell qc.out 2).trans rfl
          have hfz27_0 := blk_frozen qc.out 0
          have hfz27_1 := blk_frozen qc.out 1
          have hfz27_2 := blk_frozen qc.out 2
          have p242 : 0 ≤ (x5_2 : Int) := of_decide_eq_true (by ((with_reducible assumption)))
          have q242 : x5_2 < (l1_1.length : Int) := of_decide_eq_true (by ((with_reducible assumption)))
          obtain ⟨ad242, e242, hx242_0, hx242_1⟩ := at_T44 HR1_1.out x5_2 p242 q242
          cases e242
          replace hx242_0 := (HB.out.cell (World.block_lt_of_cell? w _ hx242_0)).trans hx242_0
          replace hx242_1 := (HB.out.cell (World.block_lt_of_cell? w _ hx242_1)).trans hx242_1
          replace p242 := eq_true p242
          replace q242 := eq_true q242
          go_wp2
          repeat (go_quiet (fail); try go_wp2)
          go_roundg k2
          case measure => have := HJ2.out; have := HK2.out; omega
          case rel => exact ⟨(wrap64 (x5_2 + 1)), (by (rfl)), H', ⟨by have := HJ2.out; have := HK2.out; omega⟩, ⟨by (with_reducible repeat ((refine blk_drewN ?_ _))); exact qb.out⟩, ⟨by (with_reducible repeat ((refine blk_drewN ?_ _))); exact qc.out⟩, ⟨by repeat (((with_reducible first | exact HB.out | apply pw_below_drewN )))⟩⟩
        ·rw [if_neg c20] at H
         exact absurd H (by simp)
       ·rw [if_neg c19] at H
        exact absurd H (by simp)
      ·rw [if_neg c18] at H
       have c18b0 : decide (x5_2 < (l0_1.length : Int)) = false := decide_eq_false c18
       clear c18
       have H' := Aside0.mk H
       clear H
       have hnb28 := qg.out
       have hnc28 := qf.out
       have hcz29_0 : wr.cell? ⟨qd, 0, none⟩ = some (.bool a0_0) := (blk_cell qb.out 0).trans rfl
       have hcz29_1 : wr.cell? ⟨qd, 1, none⟩ = some (.slice A0_1 l0_1.length c0_1) := (blk_cell qb.out 1).trans rfl
       have hcz29_2 : wr.cell? ⟨qd, 2, none⟩ = some (.slice A0_2 l0_2.length c0_2) := (blk_cell qb.out 2).trans rfl
       have hfz29_0 := blk_frozen qb.out 0
       have hfz29_1 := blk_frozen qb.out 1
       have hfz29_2 := blk_frozen qb.out 2
       go_wp2
       repeat (go_quiet (fail); try go_wp2)
       go_loopg [6] k2 (fun kq v6 w' => ∃ (x6_3 : Int), v6 = .int .i64 x6_3 ∧ Aside0 (coppiceref06_Same.l1 kq x6_3 a0_0 l0_1 l0_2 a1_0 l1_1 l1_2 = some r) ∧ Aside0 (kq ≤ k2) ∧ Aside0 (w'.heap[qd]? = some (.cells #[.bool a0_0, (.slice A0_1 l0_1.length c0_1), (.slice A0_2 l0_2.length c0_2)] 25 (0, 0))) ∧ Aside0 (w'.heap[qe]? = some (.cells #[.bool a1_0, (.slice A1_1 l1_1.length c1_1), (.slice A1_2 l1_2.length c1_2)] 25 (0, 0))) ∧ Aside0 (Below w.heap.size w w'))
       case atStart => exact ⟨(0), (by (rfl)), H', ⟨Nat.le_refl _⟩, ⟨by exact qb.out⟩, ⟨by exact qc.out⟩, ⟨by repeat (((with_reducible (exact HB.out))))⟩⟩
       case round =>
        clear H'
        try clear c1
        try clear c2
        try clear p2
        try clear q2
        try clear hx2
        try clear c6
        try clear c6b0
        try clear c6b1
        try clear c6b2
        try clear p6
        try clear c7
        try clear c10
        try clear c10b0
        try clear c10b1
        try clear c10b2
        try clear c11
        try clear c14
        try clear c17
        try clear c18
        try clear c18b0
        try clear c19
        try clear c19b0
        try clear c20
        try clear c20b0
        try clear c21
        try clear c21b0
        try clear c22
        try clear p24
        try clear q24
        try clear hx24
        try clear c25
        try clear c28
        try clear hcz12_0
        try clear hcz12_1
        try clear hcz12_2
        try clear hcz13_0
        try clear hcz13_1
        try clear hcz13_2
        try clear hcz15_0
        try clear hcz15_1
        try clear hcz15_2
        try clear hcz16_0
        try clear hcz16_1
        try clear hcz16_2
        try clear hcz23_0
        try clear hcz23_1
        try clear hcz23_2
        try clear hcz24_0
        try clear hcz24_1
        try clear hcz24_2
        try clear hcz26_0
        try clear hcz26_1
        try clear hcz26_2
        try clear hcz27_0
        try clear hcz27_1
        try clear hcz27_2
        try clear hcz29_0
        try clear hcz29_1
        try clear hcz29_2
        try clear hcz8_0
        try clear hcz8_1
        try clear hcz8_2
        try clear hcz9_0
        try clear hcz9_1
        try clear hcz9_2
        try clear hfz12_0
        try clear hfz12_1
        try clear hfz12_2
        try clear hfz13_0
        try clear hfz13_1
        try clear hfz13_2
        try clear hfz15_0
        try clear hfz15_1
        try clear hfz15_2
        try clear hfz16_0
        try clear hfz16_1
        try clear hfz16_2
        try clear hfz23_0
        try clear hfz23_1
        try clear hfz23_2
        try clear hfz24_0
        try clear hfz24_1
        try clear hfz24_2
        try clear hfz26_0
        try clear hfz26_1
        try clear hfz26_2
        try clear hfz27_0
        try clear hfz27_1
        try clear hfz27_2
        try clear hfz29_0
        try clear hfz29_1
        try clear hfz29_2
        try clear hfz8_0
        try clear hfz8_1
        try clear hfz8_2
        try clear hfz9_0
        try clear hfz9_1
        try clear hfz9_2
        try clear hx241_0
        try clear hx241_1
        try clear hx242_0
        try clear hx242_1
        try clear p2
        try clear p241
        try clear p242
        try clear q241
        try clear q242
        obtain ⟨x6_3, rfl, HA, HK3, qb, qc, HB⟩ := hrel
        cases gk with
        | zero => exact absurd HA.out (by simp [coppiceref06_Same.l1])
        | succ k3 =>
         have H := HA.out
         clear HA
         simp only [coppiceref06_Same.l1] at H
         by_cases c30 : x6_3 < (l0_2.length : Int)
         ·rw [if_pos c30] at H
          have c30b0 : decide (x6_3 < (l0_2.length : Int)) = true := decide_eq_true c30
          clear c30
          by_cases c31 : 0 ≤ x6_3
          ·rw [if_pos c31] at H
           have c31b0 : decide (0 ≤ x6_3) = true := decide_eq_true c31
           clear c31
           by_cases c32 : x6_3 < (l1_2.length : Int)
           ·rw [if_pos c32] at H
            have c32b0 : decide (x6_3 < (l1_2.length : Int)) = true := decide_eq_true c32
            clear c32
            by_cases c33 : (!((((rd_T46 l0_2 x6_3).f0).toList) == (((rd_T46 l1_2 x6_3).f0).toList)) || (!(((rd_T46 l0_2 x6_3).f1) == ((rd_T46 l1_2 x6_3).f1)))) = true
            ·rw [if_pos c33] at H
             have c33b0 : (!((((rd_T46 l0_2 x6_3).f0).toList) == (((rd_T46 l1_2 x6_3).f0).toList)) || (!(((rd_T46 l0_2 x6_3).f1) == ((rd_T46 l1_2 x6_3).f1)))) = true := c33
             clear c33
             obtain rfl := Option.some.inj H
             have hnb34 := qg.out
             have hnc34 := qf.out
             have hcz35_0 : wr.cell? ⟨qd, 0, none⟩ = some (.bool a0_0) := (blk_cell qb.out 0).trans rfl
             have hcz35_1 : wr.cell? ⟨qd, 1, none⟩ = some (.slice A0_1 l0_1.length c0_1) := (blk_cell qb.out 1).trans rfl
             have hcz35_2 : wr.cell? ⟨qd, 2, none⟩ = some (.slice A0_2 l0_2.length c0_2) := (blk_cell qb.out 2).trans rfl
             have hfz35_0 := blk_frozen qb.out 0
             have hfz35_1 := blk_frozen qb.out 1
             have hfz35_2 := blk_frozen qb.out 2
             have p243 : 0 ≤ (x6_3 : Int) := of_decide_eq_true (by ((with_reducible assumption)))
             have q243 : x6_3 < (l0_2.length : Int) := of_decide_eq_true (by ((with_reducible assumption)))
             obtain ⟨ad243, e243, hx243_0, hx243_1⟩ := at_T46 HR0_2.out x6_3 p243 q243
             cases e243
             replace hx243_0 := (HB.out.cell (World.block_lt_of_cell? w _ hx243_0)).trans hx243_0
             replace hx243_1 := (HB.out.cell (World.block_lt_of_cell? w _ hx243_1)).trans hx243_1
             replace p243 := eq_true p243
             replace q243 := eq_true q243
             have hcz36_0 : wr.cell? ⟨qe, 0, none⟩ = some (.bool a1_0) := (blk_cell qc.out 0).trans rfl
             have hcz36_1 : wr.cell? ⟨qe, 1, none⟩ = some (.slice A1_1 l1_1.length c1_1) := (blk_cell qc.out 1).trans rfl
             have hcz36_2 : wr.cell? ⟨qe, 2, none⟩ = some (.slice A1_2 l1_2.length c1_2) := (blk_cell qc.out 2).trans rfl
             have hfz36_0 := blk_frozen qc.out 0
             have hfz36_1 := blk_frozen qc.out 1
             have hfz36_2 := blk_frozen qc.out 2
             have p244 : 0 ≤ (x6_3 : Int) := of_decide_eq_true (by ((with_reducible assumption)))
             have q244 : x6_3 < (l1_2.length : Int) := of_decide_eq_true (by ((with_reducible assumption)))
             obtain ⟨ad244, e244, hx244_0, hx244_1⟩ := at_T46 HR1_2.out x6_3 p244 q244
             cases e244
             replace hx244_0 := (HB.out.cell (World.block_lt_of_cell? w _ hx244_0)).trans hx244_0
             replace hx244_1 := (HB.out.cell (World.block_lt_of_cell? w _ hx244_1)).trans hx244_1
             replace p244 := eq_true p244
             replace q244 := eq_true q244
             go_wp2
             repeat (go_quiet (fail); try go_wp2)
             go_ret
             exact ⟨by (rfl), by repeat (((with_reducible first | exact HB.out | apply pw_below_drewN )))⟩
            ·rw [if_neg c33] at H
             have c33b0 : (!((((rd_T46 l0_2 x6_3).f0).toList) == (((rd_T46 l1_2 x6_3).f0).toList)) || (!(((rd_T46 l0_2 x6_3).f1) == ((rd_T46 l1_2 x6_3).f1)))) = false := by simpa using c33
             clear c33
             have H' := Aside0.mk H
             clear H
             have hnb37 := qg.out
             have hnc37 := qf.out
             have hcz38_0 : wr.cell? ⟨qd, 0, none⟩ = some (.bool a0_0) := (blk_cell qb.out 0).trans rfl
             have hcz38_1 : wr.cell? ⟨qd, 1, none⟩ = some (.slice A0_1 l0_1.length c0_1) := (blk_cell qb.out 1).trans rfl
             have hcz38_2 : wr.cell? ⟨qd, 2, none⟩ = some (.slice A0_2 l0_2.length c0_2) := (blk_cell qb.out 2).trans rfl
             have hfz38_0 := blk_frozen qb.out 0
             have hfz38_1 := blk_frozen qb.out 1
             have hfz38_2 := blk_frozen qb.out 2
             have p243 : 0 ≤ (x6_3 : Int) := of_decide_eq_true (by ((with_reducible assumption)))
             have q243 : x6_3 < (l0_2.length : Int) := of_decide_eq_true (by ((with_reducible assumption)))
             obtain ⟨ad243, e243, hx243_0, hx243_1⟩ := at_T46 HR0_2.out x6_3 p243 q243
             cases e243
             replace hx243_0 := (HB.out.cell (World.block_lt_of_cell? w _ hx243_0)).trans hx243_0
             replace hx243_1 := (HB.out.cell (World.block_lt_of_cell? w _ hx243_1)).trans hx243_1
             replace p243 := eq_true p243
             replace q243 := eq_true q243
             have hcz39_0 : wr.cell? ⟨qe, 0, none⟩ = some (.bool a1_0) := (blk_cell qc.out 0).trans rfl
             have hcz39_1 : wr.cell? ⟨qe, 1, none⟩ = some (.slice A1_1 l1_1.length c1_1) := (blk_cell qc.out 1).trans rfl
             have hcz39_2 : wr.cell? ⟨qe, 2, none⟩ = some (.slice A1_2 l1_2.length c1_2) := (blk_cell qc.out 2).trans rfl
             have hfz39_0 := blk_frozen qc.out 0
             have hfz39_1 := blk_frozen qc.out 1
             have hfz39_2 := blk_frozen qc.out 2
             have p244 : 0 ≤ (x6_3 : Int) := of_decide_eq_true (by ((with_reducible assumption)))
             have q244 : x6_3 < (l1_2.length : Int) := of_decide_eq_true (by ((with_reducible assumption)))
             obtain ⟨ad244, e244, hx244_0, hx244_1⟩ := at_T46 HR1_2.out x6_3 p244 q244
             cases e244
             replace hx244_0 := (HB.out.cell (World.block_lt_of_cell? w _ hx244_0)).trans hx244_0
             replace hx244_1 := (HB.out.cell (World.block_lt_of_cell? w _ hx244_1)).trans hx244_1
             replace p244 := eq_true p244
             replace q244 := eq_true q244
             go_wp2
             repeat (go_quiet (fail); try go_wp2)
             go_roundg k3
             case measure => have := HJ2.out; have := HK2.out; have := HK3.out; omega
             case rel => exact ⟨(wrap64 (x6_3 + 1)), (by (rfl)), H', ⟨by have := HJ2.out; have := HK2.out; have := HK3.out; omega⟩, ⟨by (with_reducible repeat ((refine blk_drewN ?_ _))); exact qb.out⟩, ⟨by (with_reducible repeat ((refine blk_drewN ?_ _))); exact qc.out⟩, ⟨by repeat (((with_reducible first | exact HB.out | apply pw_below_drewN )))⟩⟩
           ·rw [if_neg c32] at H
            exact absurd H (by simp)
          ·rw [if_neg c31] at H
           exact absurd H (by simp)
         ·rw [if_neg c30] at H
          have c30b0 : decide (x6_3 < (l0_2.length : Int)) = false := decide_eq_false c30
          clear c30
          obtain rfl := Option.some.inj H
          have hnb40 := qg.out
          have hnc40 := qf.out
          have hcz41_0 : wr.cell? ⟨qd, 0, none⟩ = some (.bool a0_0) := (blk_cell qb.out 0).trans rfl
          have hcz41_1 : wr.cell? ⟨qd, 1, none⟩ = some (.slice A0_1 l0_1.length c0_1) := (blk_cell qb.out 1).trans rfl
          have hcz41_2 : wr.cell? ⟨qd, 2, none⟩ = some (.slice A0_2 l0_2.length c0_2) := (blk_cell qb.out 2).trans rfl
          have hfz41_0 := blk_frozen qb.out 0
          have hfz41_1 := blk_frozen qb.out 1
          have hfz41_2 := blk_frozen qb.out 2
          go_wp2
          repeat (go_quiet (fail); try go_wp2)
          go_ret
          exact ⟨by (rfl), by repeat (((with_reducible (exact HB.out))))⟩

end Go.Proofs.Ytdkbikaheagbfaa.PT
