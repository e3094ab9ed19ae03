-- WRITTEN BY a program of this session (pp.sh)
import Derived.Test.YtdkbikaheagbfaaPTx0
namespace Go.Proofs.Ytdkbikaheagbfaa.PT
open Go.RowKit Go.Proofs.YtdkbikaheagbfaaW.PrintWords Go.Proofs.YtdkbikaheagbfaaW.PrintLast Go.Proofs.YtdkbikaheagbfaaW.PrintMore Go.Proofs.Ytdkbikaheagbfaa.Plain
attribute [local go_sem] max2_int min2_int max_two min_two max_three min_three max_four min_four binOp_leq_s binOp_gtr_s binOp_geq_s lit_byte   -- for this text's walks alone
set_option linter.unusedVariables false
set_option linter.unusedSimpArgs false

/-! ### coppiceref06_Right: function 28 -/
mutual
def coppiceref06_Right.j0 : Nat → Bool → Bool → List (S44) → List (S46) → Option (Bool)
 | 0, _, _, _, _ => none
 | k + 1, x37, x193000, x193001, x193002 => if x37 = true then (some false) else (coppiceref06_Right.l0 k 0 x193000 x193001 x193002)
def coppiceref06_Right.l0 : Nat → Int → Bool → List (S44) → List (S46) → Option (Bool)
 | 0, _, _, _, _ => none
 | k + 1, x3, x193000, x193001, x193002 => if x3 < (x193001.length : Int) then (if 0 ≤ x3 then (if ((rd_T44 x193001 x3).f0).toList = ([] : List UInt8) then (some false) else (if (((rd_T44 x193001 x3).f0).size : Int) > 272 then (some false) else (if (((rd_T44 x193001 x3).f1).size : Int) > 160 then (some false) else (if x3 > 0 then (if 0 ≤ (wrap64 (x3 - 1)) then (if (wrap64 (x3 - 1)) < (x193001.length : Int) then (if ((Op.bytesLess (((rd_T44 x193001 (wrap64 (x3 - 1))).f0).toList) (((rd_T44 x193001 x3).f0).toList)) = true) then (coppiceref06_Right.l0 k (wrap64 (x3 + 1)) x193000 x193001 x193002) else (some false)) else (none)) else (none)) else (coppiceref06_Right.l0 k (wrap64 (x3 + 1)) x193000 x193001 x193002))))) else (none)) else (coppiceref06_Right.l1 k 0 x193000 x193001 x193002)
def coppiceref06_Right.l1 : Nat → Int → Bool → List (S44) → List (S46) → Option (Bool)
 | 0, _, _, _, _ => none
 | k + 1, x5, x193000, x193001, x193002 => if x5 < (x193002.length : Int) then (if 0 ≤ x5 then (if (((rd_T46 x193002 x5).f0).size : Int) > 272 then (some false) else (if ((rd_T46 x193002 x5).f1) < 2 then (some false) else (if ((rd_T46 x193002 x5).f1) > 4095 then (some false) else (if x5 > 0 then (if 0 ≤ (wrap64 (x5 - 1)) then (if (wrap64 (x5 - 1)) < (x193002.length : Int) then (if ((Op.bytesLess (((rd_T46 x193002 (wrap64 (x5 - 1))).f0).toList) (((rd_T46 x193002 x5).f0).toList)) = true) then (coppiceref06_Right.l1 k (wrap64 (x5 + 1)) x193000 x193001 x193002) else (some false)) else (none)) else (none)) else (coppiceref06_Right.l1 k (wrap64 (x5 + 1)) x193000 x193001 x193002))))) else (none)) else (some true)
end
def coppiceref06_Right.f (k : Nat) (a0_0 : Bool) (l0_1 : List (S44)) (l0_2 : List (S46)) : Option (Bool) := if a0_0 = true then (if (l0_1.length : Int) = 0 then (coppiceref06_Right.j0 k true a0_0 l0_1 l0_2) else (if (l0_2.length : Int) > 0 then (coppiceref06_Right.j0 k true a0_0 l0_1 l0_2) else (coppiceref06_Right.j0 k false a0_0 l0_1 l0_2))) else (if (l0_2.length : Int) = 0 then (coppiceref06_Right.j0 k true a0_0 l0_1 l0_2) else (coppiceref06_Right.j0 k (decide ((l0_1.length : Int) > 0)) a0_0 l0_1 l0_2))
theorem coppiceref06_Right.mono_l : ∀ k, (∀ y0 y1 y2 y3, LeO (coppiceref06_Right.j0 k y0 y1 y2 y3) (coppiceref06_Right.j0 (k + 1) y0 y1 y2 y3)) ∧ (∀ y0 y1 y2 y3, LeO (coppiceref06_Right.l0 k y0 y1 y2 y3) (coppiceref06_Right.l0 (k + 1) y0 y1 y2 y3)) ∧ (∀ y0 y1 y2 y3, LeO (coppiceref06_Right.l1 k y0 y1 y2 y3) (coppiceref06_Right.l1 (k + 1) y0 y1 y2 y3))
 | 0 => ⟨fun _ _ _ _ r h => by simp [coppiceref06_Right.j0] at h, fun _ _ _ _ r h => by simp [coppiceref06_Right.l0] at h, fun _ _ _ _ r h => by simp [coppiceref06_Right.l1] at h⟩
 | k + 1 => by
  obtain ⟨ih0, ih1, ih2⟩ := coppiceref06_Right.mono_l k
  refine ⟨?_, ?_, ?_⟩
  ·intro y0 y1 y2 y3
   unfold coppiceref06_Right.j0
   repeat' first
   | (with_reducible exact ih1 _ _ _ _)
   | (with_reducible exact LeO.refl _)
   | (with_reducible refine LeO.ite ?_ ?_)
  ·intro y0 y1 y2 y3
   unfold coppiceref06_Right.l0
   repeat' first
   | (with_reducible exact ih1 _ _ _ _)
   | (with_reducible exact ih2 _ _ _ _)
   | (with_reducible exact LeO.refl _)
   | (with_reducible refine LeO.ite ?_ ?_)
  ·intro y0 y1 y2 y3
   unfold coppiceref06_Right.l1
   repeat' first
   | (with_reducible exact ih2 _ _ _ _)
   | (with_reducible exact LeO.refl _)
   | (with_reducible refine LeO.ite ?_ ?_)
theorem coppiceref06_Right.mono : ∀ a0 a1 a2 k, LeO (coppiceref06_Right.f k a0 a1 a2) (coppiceref06_Right.f (k + 1) a0 a1 a2) := by
 intro a0 a1 a2 k
 obtain ⟨ih0, ih1, ih2⟩ := coppiceref06_Right.mono_l k
 unfold coppiceref06_Right.f
 repeat' first
   | (with_reducible exact ih0 _ _ _ _)
   | (with_reducible refine LeO.ite ?_ ?_)
set_option maxHeartbeats 8000000 in
set_option maxRecDepth 100000 in
theorem coppiceref06_Right.calls (k : Nat) (a0_0 : Bool) (A0_1 : Option Addr) (c0_1 : Nat) (l0_1 : List (S44)) (A0_2 : Option Addr) (c0_2 : Nat) (l0_2 : List (S46)) (r : Bool) (w : World) (hr0_1 : Kd.C k44 w A0_1 l0_1.length l0_1) (hc0_1 : l0_1.length ≤ c0_1) (hr0_2 : Kd.C k46 w A0_2 l0_2.length l0_2) (hc0_2 : l0_2.length ≤ c0_2) (h : coppiceref06_Right.f k a0_0 l0_1 l0_2 = some r) :
  Calls Try.prog 28 #[.agg #[.bool a0_0, .slice A0_1 l0_1.length c0_1, .slice A0_2 l0_2.length c0_2]] w fun e w' => e = .returned (.bool r) ∧ Below w.heap.size w w' := by
 have hu25 := Try.underlying25
 have hu44 := Try.underlying44
 have hu46 := Try.underlying46
 have HR0_1 := Aside0.mk hr0_1
 have HC0_1 := Aside0.mk hc0_1
 clear hr0_1 hc0_1
 have HR0_2 := Aside0.mk hr0_2
 have HC0_2 := Aside0.mk hc0_2
 clear hr0_2 hc0_2
 have HB := Aside0.mk (Below.refl w.heap.size w)
 have H : (if a0_0 = true then (if (l0_1.length : Int) = 0 then (coppiceref06_Right.j0 k true a0_0 l0_1 l0_2) else (if (l0_2.length : Int) > 0 then (coppiceref06_Right.j0 k true a0_0 l0_1 l0_2) else (coppiceref06_Right.j0 k false a0_0 l0_1 l0_2))) else (if (l0_2.length : Int) = 0 then (coppiceref06_Right.j0 k true a0_0 l0_1 l0_2) else (coppiceref06_Right.j0 k (decide ((l0_1.length : Int) > 0)) a0_0 l0_1 l0_2))) = some r := h
 clear h
 have HC2 := Aside0.mk H
 clear H
 go_enter Try.func28, Try.ntmps28
 go_upto_region 1 with (first | ((with_reducible refine gate_dst (N := 1) rfl ?_); (try (refine gate_guard (by rfl) ?_; dsimp only)); refine box_event ?hg (N := 1) ?hd (cs := #[.bool a0_0, .slice A0_1 l0_1.length c0_1, .slice A0_2 l0_2.length c0_2]) (t := 25) ?hr ?_; (case hd => rfl); (case hg => rfl); (case hr => ((go_simp; done))); intro qc hg w3 hbox hb; have n0_ := Aside0.mk (below_step (by repeat (((with_reducible (exact HB.out))))) hb); have n1_ := Aside0.mk (hbox); have n2_ := Aside0.mk ((by rw [hg]; exact (below_size (by repeat (((with_reducible (exact HB.out)))))) : w.heap.size ≤ qc)); have n3_ := Aside0.mk ((by rw [hg]; exact (below_size (by repeat (((with_reducible (exact HB.out)))))) : w.heap.size ≤ qc)); clear HB; have HB := n0_; have qb := n1_; have GW192 := n2_; have qt := n3_; clear n0_ n1_ n2_ n3_; clear hb hbox hg))
 repeat (go_quiet (fail); go_upto_region 1 with (fail))
 (try simp only [Act.put, List.setIfInBounds_toArray, List.set_cons_zero, List.set_cons_succ])
 go_cut [37] (fun qs wc => ∃ (kq : Nat) (qn : Bool), qs = .bool qn ∧ Aside0 (coppiceref06_Right.j0 kq qn a0_0 l0_1 l0_2 = some r) ∧ Aside0 (kq ≤ k) ∧ Aside0 (wc.heap[qc]? = some (.cells #[.bool a0_0, (.slice A0_1 l0_1.length c0_1), (.slice A0_2 l0_2.length c0_2)] 25 (0, 0))) ∧ Aside0 (Below w.heap.size w wc))
 case first =>
  have H := HC2.out
  clear HC2
  by_cases c4 : a0_0 = true
  ·subst c4
   have H1 : (if (l0_1.length : Int) = 0 then (coppiceref06_Right.j0 k true true l0_1 l0_2) else (if (l0_2.length : Int) > 0 then (coppiceref06_Right.j0 k true true l0_1 l0_2) else (coppiceref06_Right.j0 k false true l0_1 l0_2))) = some r := by rw [if_pos rfl] at H; exact H
   clear H
   have H := H1
   clear H1
   by_cases c5 : (l0_1.length : Int) = 0
   ·rw [if_pos c5] at H
    have c5b0 : ((l0_1.length : Int) == 0) = true := beq_iff_eq.mpr c5
    have c5b1 : ((l0_1.length : Int) != 0) = false := bne_eq_false_iff_eq.mpr c5
    clear c5
    ((skip))
    have H' := Aside0.mk H
    clear H
    have hcz6_0 : w3.cell? ⟨qc, 0, none⟩ = some (.bool true) := (blk_cell qb.out 0).trans rfl
    have hcz6_1 : w3.cell? ⟨qc, 1, none⟩ = some (.slice A0_1 l0_1.length c0_1) := (blk_cell qb.out 1).trans rfl
    have hcz6_2 : w3.cell? ⟨qc, 2, none⟩ = some (.slice A0_2 l0_2.length c0_2) := (blk_cell qb.out 2).trans rfl
    have hfz6_0 := blk_frozen qb.out 0
    have hfz6_1 := blk_frozen qb.out 1
    have hfz6_2 := blk_frozen qb.out 2
    go_wp2
    repeat (go_quiet (fail); try go_wp2)
    go_meet
    case rel => exact ⟨_, (true), (by (rfl)), H', ⟨by (omega)⟩, ⟨by exact qb.out⟩, ⟨by repeat (((with_reducible (exact HB.out))))⟩⟩
   ·rw [if_neg c5] at H
    have c5b0 : ((l0_1.length : Int) == 0) = false := beq_eq_false_iff_ne.mpr c5
    have c5b1 : ((l0_1.length : Int) != 0) = true := bne_iff_ne.mpr c5
    have c5b2 : ¬ (l0_1 = []) := fun h_ => c5 (by rw [h_]; rfl)
    ((skip))
    by_cases c7 : (l0_2.length : Int) > 0
    ·rw [if_pos c7] at H
     have c7b0 : decide (0 < (l0_2.length : Int)) = true := decide_eq_true c7
     have c7b1 : decide (0 < l0_2.length) = true := decide_eq_true (by omega)
     clear c7
     have H' := Aside0.mk H
     clear H
     have hcz8_0 : w3.cell? ⟨qc, 0, none⟩ = some (.bool true) := (blk_cell qb.out 0).trans rfl
     have hcz8_1 : w3.cell? ⟨qc, 1, none⟩ = some (.slice A0_1 l0_1.length c0_1) := (blk_cell qb.out 1).trans rfl
     have hcz8_2 : w3.cell? ⟨qc, 2, none⟩ = some (.slice A0_2 l0_2.length c0_2) := (blk_cell qb.out 2).trans rfl
     have hfz8_0 := blk_frozen qb.out 0
     have hfz8_1 := blk_frozen qb.out 1
     have hfz8_2 := blk_frozen qb.out 2
     go_wp2
     repeat (go_quiet (fail); try go_wp2)
     go_meet
     case rel => exact ⟨_, (true), (by (rfl)), H', ⟨by (omega)⟩, ⟨by exact qb.out⟩, ⟨by repeat (((with_reducible (exact HB.out))))⟩⟩
    ·rw [if_neg c7] at H
     have c7b0 : decide (0 < (l0_2.length : Int)) = false := decide_eq_false c7
     have c7b1 : decide (0 < l0_2.length) = false := decide_eq_false (by omega)
     clear c7
     have H' := Aside0.mk H
     clear H
     have hcz9_0 : w3.cell? ⟨qc, 0, none⟩ = some (.bool true) := (blk_cell qb.out 0).trans rfl
     have hcz9_1 : w3.cell? ⟨qc, 1, none⟩ = some (.slice A0_1 l0_1.length c0_1) := (blk_cell qb.out 1).trans rfl
     have hcz9_2 : w3.cell? ⟨qc, 2, none⟩ = some (.slice A0_2 l0_2.length c0_2) := (blk_cell qb.out 2).trans rfl
     have hfz9_0 := blk_frozen qb.out 0
     have hfz9_1 := blk_frozen qb.out 1
     have hfz9_2 := blk_frozen qb.out 2
     go_wp2
     repeat (go_quiet (fail); try go_wp2)
     go_meet
     case rel => exact ⟨_, (false), (by (rfl)), H', ⟨by (omega)⟩, ⟨by exact qb.out⟩, ⟨by repeat (((with_reducible (exact HB.out))))⟩⟩
  ·replace c4 := Bool.eq_false_iff.mpr c4
   subst c4
   have H1 : (if (l0_2.length : Int) = 0 then (coppiceref06_Right.j0 k true false l0_1 l0_2) else (coppiceref06_Right.j0 k (decide ((l0_1.length : Int) > 0)) false l0_1 l0_2)) = some r := by rw [if_neg (show ¬ (false = true) by decide)] at H; exact H
   clear H
   have H := H1
   clear H1
   by_cases c10 : (l0_2.length : Int) = 0
   ·rw [if_pos c10] at H
    have c10b0 : ((l0_2.length : Int) == 0) = true := beq_iff_eq.mpr c10
    have c10b1 : ((l0_2.length : Int) != 0) = false := bne_eq_false_iff_eq.mpr c10
    clear c10
    have H' := Aside0.mk H
    clear H
    have hcz11_0 : w3.cell? ⟨qc, 0, none⟩ = some (.bool false) := (blk_cell qb.out 0).trans rfl
    have hcz11_1 : w3.cell? ⟨qc, 1, none⟩ = some (.slice A0_1 l0_1.length c0_1) := (blk_cell qb.out 1).trans rfl
    have hcz11_2 : w3.cell? ⟨qc, 2, none⟩ = some (.slice A0_2 l0_2.length c0_2) := (blk_cell qb.out 2).trans rfl
    have hfz11_0 := blk_frozen qb.out 0
    have hfz11_1 := blk_frozen qb.out 1
    have hfz11_2 := blk_frozen qb.out 2
    go_wp2
    repeat (go_quiet (fail); try go_wp2)
    go_meet
    case rel => exact ⟨_, (true), (by (rfl)), H', ⟨by (omega)⟩, ⟨by exact qb.out⟩, ⟨by repeat (((with_reducible (exact HB.out))))⟩⟩
   ·rw [if_neg c10] at H
    have c10b0 : ((l0_2.length : Int) == 0) = false := beq_eq_false_iff_ne.mpr c10
    have c10b1 : ((l0_2.length : Int) != 0) = true := bne_iff_ne.mpr c10
    have c10b2 : ¬ (l0_2 = []) := fun h_ => c10 (by rw [h_]; rfl)
    have H' := Aside0.mk H
    clear H
    have hcz12_0 : w3.cell? ⟨qc, 0, none⟩ = some (.bool false) := (blk_cell qb.out 0).trans rfl
    have hcz12_1 : w3.cell? ⟨qc, 1, none⟩ = some (.slice A0_1 l0_1.length c0_1) := (blk_cell qb.out 1).trans rfl
    have hcz12_2 : w3.cell? ⟨qc, 2, none⟩ = some (.slice A0_2 l0_2.length c0_2) := (blk_cell qb.out 2).trans rfl
    have hfz12_0 := blk_frozen qb.out 0
    have hfz12_1 := blk_frozen qb.out 1
    have hfz12_2 := blk_frozen qb.out 2
    go_wp2
    repeat (go_quiet (fail); try go_wp2)
    go_meet
    case rel => exact ⟨_, (decide ((l0_1.length : Int) > 0)), (by ((simp; done))), H', ⟨by (omega)⟩, ⟨by exact qb.out⟩, ⟨by repeat (((with_reducible (exact HB.out))))⟩⟩
 case rest =>
  clear HC2
  try clear c1
  try clear c2
  try clear p2
  try clear c4
  try clear c5
  try clear c5b0
  try clear c5b1
  try clear c5b2
  try clear c7
  try clear c7b0
  try clear c7b1
  try clear c10
  try clear c10b0
  try clear c10b1
  try clear c10b2
  try clear hcz11_0
  try clear hcz11_1
  try clear hcz11_2
  try clear hcz12_0
  try clear hcz12_1
  try clear hcz12_2
  try clear hcz6_0
  try clear hcz6_1
  try clear hcz6_2
  try clear hcz8_0
  try clear hcz8_1
  try clear hcz8_2
  try clear hcz9_0
  try clear hcz9_1
  try clear hcz9_2
  try clear hfz11_0
  try clear hfz11_1
  try clear hfz11_2
  try clear hfz12_0
  try clear hfz12_1
  try clear hfz12_2
  try clear hfz6_0
  try clear hfz6_1
  try clear hfz6_2
  try clear hfz8_0
  try clear hfz8_1
  try clear hfz8_2
  try clear hfz9_0
  try clear hfz9_1
  try clear hfz9_2
  obtain ⟨kq, qn, rfl, HA, HJ1, qb, HB⟩ := hcut
  cases kq with
  | zero => exact absurd HA.out (by simp [coppiceref06_Right.j0])
  | succ kj1 =>
   have H := HA.out
   clear HA
   simp only [coppiceref06_Right.j0] at H
   by_cases c13 : qn = true
   ·subst c13
    have H1 : (some false) = some r := by rw [if_pos rfl] at H; exact H
    clear H
    have H := H1
    clear H1
    obtain rfl := Option.some.inj H
    go_wp2
    repeat (go_quiet (fail); try go_wp2)
    go_ret
    exact ⟨by (rfl), by repeat (((with_reducible (exact HB.out))))⟩
   ·replace c13 := Bool.eq_false_iff.mpr c13
    subst c13
    have H1 : (coppiceref06_Right.l0 kj1 0 a0_0 l0_1 l0_2) = some r := by rw [if_neg (show ¬ (false = true) by decide)] at H; exact H
    clear H
    have H := H1
    clear H1
    have H' := Aside0.mk H
    clear H
    go_wp2
    repeat (go_quiet (fail); try go_wp2)
    go_loopg [3] kj1 (fun kq v3 w' => ∃ (x3_2 : Int), v3 = .int .i64 x3_2 ∧ Aside0 (coppiceref06_Right.l0 kq x3_2 a0_0 l0_1 l0_2 = some r) ∧ Aside0 (kq ≤ kj1) ∧ Aside0 (w'.heap[qc]? = some (.cells #[.bool a0_0, (.slice A0_1 l0_1.length c0_1), (.slice A0_2 l0_2.length c0_2)] 25 (0, 0))) ∧ Aside0 (Below w.heap.size w w'))
    case atStart => exact ⟨(0), (by (rfl)), H', ⟨Nat.le_refl _⟩, ⟨by exact qb.out⟩, ⟨by repeat (((with_reducible (exact HB.out))))⟩⟩
    case round =>
     clear H'
     try clear c1
     try clear c2
     try clear p2
     try clear c4
     try clear c5
     try clear c5b0
     try clear c5b1
     try clear c5b2
     try clear c7
     try clear c7b0
     try clear c7b1
     try clear c10
     try clear c10b0
     try clear c10b1
     try clear c10b2
     try clear c13
     try clear hcz11_0
     try clear hcz11_1
     try clear hcz11_2
     try clear hcz12_0
     try clear hcz12_1
     try clear hcz12_2
     try clear hcz6_0
     try clear hcz6_1
     try clear hcz6_2
     try clear hcz8_0
     try clear hcz8_1
     try clear hcz8_2
     try clear hcz9_0
     try clear hcz9_1
     try clear hcz9_2
     try clear hfz11_0
     try clear hfz11_1
     try clear hfz11_2
     try clear hfz12_0
     try clear hfz12_1
     try clear hfz12_2
     try clear hfz6_0
     try clear hfz6_1
     try clear hfz6_2
     try clear hfz8_0
     try clear hfz8_1
     try clear hfz8_2
     try clear hfz9_0
     try clear hfz9_1
     try clear hfz9_2
     try clear p2
     obtain ⟨x3_2, rfl, HA, HK2, qb, HB⟩ := hrel
     cases gk with
     | zero => exact absurd HA.out (by simp [coppiceref06_Right.l0])
     | succ k2 =>
      have H := HA.out
      clear HA
      simp only [coppiceref06_Right.l0] at H
      by_cases c14 : x3_2 < (l0_1.length : Int)
      ·rw [if_pos c14] at H
       have c14b0 : decide (x3_2 < (l0_1.length : Int)) = true := decide_eq_true c14
       clear c14
       by_cases c15 : 0 ≤ x3_2
       ·rw [if_pos c15] at H
        have c15b0 : decide (0 ≤ x3_2) = true := decide_eq_true c15
        clear c15
        by_cases c16 : ((rd_T44 l0_1 x3_2).f0).toList = ([] : List UInt8)
        ·rw [if_pos c16] at H
         have c16b0 : (((rd_T44 l0_1 x3_2).f0).toList == ([] : List UInt8)) = true := beq_iff_eq.mpr c16
         have c16b1 : (((rd_T44 l0_1 x3_2).f0).toList != ([] : List UInt8)) = false := bne_eq_false_iff_eq.mpr c16
         clear c16
         obtain rfl := Option.some.inj H
         have hcz17_0 : wr.cell? ⟨qc, 0, none⟩ = some (.bool a0_0) := (blk_cell qb.out 0).trans rfl
         have hcz17_1 : wr.cell? ⟨qc, 1, none⟩ = some (.slice A0_1 l0_1.length c0_1) := (blk_cell qb.out 1).trans rfl
         have hcz17_2 : wr.cell? ⟨qc, 2, none⟩ = some (.slice A0_2 l0_2.length c0_2) := (blk_cell qb.out 2).trans rfl
         have hfz17_0 := blk_frozen qb.out 0
         have hfz17_1 := blk_frozen qb.out 1
         have hfz17_2 := blk_frozen qb.out 2
         have p193 : 0 ≤ (x3_2 : Int) := of_decide_eq_true (by ((with_reducible assumption)))
         have q193 : x3_2 < (l0_1.length : Int) := of_decide_eq_true (by ((with_reducible assumption)))
         obtain ⟨ad193, e193, hx193_0, hx193_1⟩ := at_T44 HR0_1.out x3_2 p193 q193
         cases e193
         replace hx193_0 := (HB.out.cell (World.block_lt_of_cell? w _ hx193_0)).trans hx193_0
         replace hx193_1 := (HB.out.cell (World.block_lt_of_cell? w _ hx193_1)).trans hx193_1
         replace p193 := eq_true p193
         replace q193 := eq_true q193
         go_wp2_with (first | ((with_reducible refine gate_dst (N := 4) rfl ?_); (try (refine gate_guard (by rfl) ?_; dsimp only)); refine box_event ?hg (N := 4) ?hd (cs := #[.string (⟨#[]⟩ : ByteArray), .string (⟨#[]⟩ : ByteArray)]) (t := 44) ?hr ?_; (case hd => rfl); (case hg => rfl); (case hr => ((go_simp; done))); intro qd hg w18 hbox hb; have n0_ := Aside0.mk (blk_below (g := qc) (o := .cells #[.bool a0_0, .slice (some ad193) l0_1.length c0_1, .slice A0_2 l0_2.length c0_2] 25 (0, 0)) (by exact qb.out) hb); have n1_ := Aside0.mk (below_step (by repeat (((with_reducible (exact HB.out))))) hb); have n2_ := Aside0.mk (hbox); have n3_ := Aside0.mk ((by rw [hg]; exact (below_size (by repeat (((with_reducible (exact HB.out)))))) : w.heap.size ≤ qd)); have n4_ := Aside0.mk ((by rw [hg]; exact (below_size (by repeat (((with_reducible (exact HB.out)))))) : w.heap.size ≤ qd)); have n5_ := Aside0.mk ((by rw [hg]; exact Nat.ne_of_lt (blk_lt (g := qc) (o := .cells #[.bool a0_0, .slice (some ad193) l0_1.length c0_1, .slice A0_2 l0_2.length c0_2] 25 (0, 0)) (by exact qb.out)) : qc ≠ qd)); have n6_ := Aside0.mk ((by rw [hg]; exact Nat.ne_of_gt (blk_lt (g := qc) (o := .cells #[.bool a0_0, .slice (some ad193) l0_1.length c0_1, .slice A0_2 l0_2.length c0_2] 25 (0, 0)) (by exact qb.out)) : qd ≠ qc)); clear qb; clear HB; have qb := n0_; have HB := n1_; have qf := n2_; have GW194 := n3_; have qm := n4_; have qh := n5_; have qk := n6_; clear n0_ n1_ n2_ n3_ n4_ n5_ n6_; clear hb hbox hg; have hnb19 := qk.out; have hnc19 := qh.out; have hcz20_0 : w18.cell? ⟨qd, 0, none⟩ = some (.string (⟨#[]⟩ : ByteArray)) := (blk_cell qf.out 0).trans rfl; have hcz20_1 : w18.cell? ⟨qd, 1, none⟩ = some (.string (⟨#[]⟩ : ByteArray)) := (blk_cell qf.out 1).trans rfl; have hfz20_0 := blk_frozen qf.out 0; have hfz20_1 := blk_frozen qf.out 1))
         repeat (go_quiet (fail); try go_wp2_with (fail))
         go_ret
         exact ⟨by (rfl), by repeat (((with_reducible first | exact HB.out | apply pw_below_drewN | refine below_set ?_ qm.out)))⟩
        ·rw [if_neg c16] at H
         have c16b0 : (((rd_T44 l0_1 x3_2).f0).toList == ([] : List UInt8)) = false := beq_eq_false_iff_ne.mpr c16
         have c16b1 : (((rd_T44 l0_1 x3_2).f0).toList != ([] : List UInt8)) = true := bne_iff_ne.mpr c16
         by_cases c21 : (((rd_T44 l0_1 x3_2).f0).size : Int) > 272
         ·rw [if_pos c21] at H
          have c21b0 : decide (272 < (((rd_T44 l0_1 x3_2).f0).size : Int)) = true := decide_eq_true c21
          have c21b1 : decide (272 < ((rd_T44 l0_1 x3_2).f0).size) = true := decide_eq_true (by omega)
          clear c21
          obtain rfl := Option.some.inj H
          have hcz22_0 : wr.cell? ⟨qc, 0, none⟩ = some (.bool a0_0) := (blk_cell qb.out 0).trans rfl
          have hcz22_1 : wr.cell? ⟨qc, 1, none⟩ = some (.slice A0_1 l0_1.length c0_1) := (blk_cell qb.out 1).trans rfl
          have hcz22_2 : wr.cell? ⟨qc, 2, none⟩ = some (.slice A0_2 l0_2.length c0_2) := (blk_cell qb.out 2).trans rfl
          have hfz22_0 := blk_frozen qb.out 0
          have hfz22_1 := blk_frozen qb.out 1
          have hfz22_2 := blk_frozen qb.out 2
          have p193 : 0 ≤ (x3_2 : Int) := of_decide_eq_true (by ((with_reducible assumption)))
          have q193 : x3_2 < (l0_1.length : Int) := of_decide_eq_true (by ((with_reducible assumption)))
          obtain ⟨ad193, e193, hx193_0, hx193_1⟩ := at_T44 HR0_1.out x3_2 p193 q193
          cases e193
          replace hx193_0 := (HB.out.cell (World.block_lt_of_cell? w _ hx193_0)).trans hx193_0
          replace hx193_1 := (HB.out.cell (World.block_lt_of_cell? w _ hx193_1)).trans hx193_1
          replace p193 := eq_true p193
          replace q193 := eq_true q193
          go_wp2_with (first | ((with_reducible refine gate_dst (N := 4) rfl ?_); (try (refine gate_guard (by rfl) ?_; dsimp only)); refine box_event ?hg (N := 4) ?hd (cs := #[.string (⟨#[]⟩ : ByteArray), .string (⟨#[]⟩ : ByteArray)]) (t := 44) ?hr ?_; (case hd => rfl); (case hg => rfl); (case hr => ((go_simp; done))); intro qd hg w23 hbox hb; have n0_ := Aside0.mk (blk_below (g := qc) (o := .cells #[.bool a0_0, .slice (some ad193) l0_1.length c0_1, .slice A0_2 l0_2.length c0_2] 25 (0, 0)) (by exact qb.out) hb); have n1_ := Aside0.mk (below_step (by repeat (((with_reducible (exact HB.out))))) hb); have n2_ := Aside0.mk (hbox); have n3_ := Aside0.mk ((by rw [hg]; exact (below_size (by repeat (((with_reducible (exact HB.out)))))) : w.heap.size ≤ qd)); have n4_ := Aside0.mk ((by rw [hg]; exact (below_size (by repeat (((with_reducible (exact HB.out)))))) : w.heap.size ≤ qd)); have n5_ := Aside0.mk ((by rw [hg]; exact Nat.ne_of_lt (blk_lt (g := qc) (o := .cells #[.bool a0_0, .slice (some ad193) l0_1.length c0_1, .slice A0_2 l0_2.length c0_2] 25 (0, 0)) (by exact qb.out)) : qc ≠ qd)); have n6_ := Aside0.mk ((by rw [hg]; exact Nat.ne_of_gt (blk_lt (g := qc) (o := .cells #[.bool a0_0, .slice (some ad193) l0_1.length c0_1, .slice A0_2 l0_2.length c0_2] 25 (0, 0)) (by exact qb.out)) : qd ≠ qc)); clear qb; clear HB; have qb := n0_; have HB := n1_; have qf := n2_; have GW194 := n3_; have qm := n4_; have qh := n5_; have qk := n6_; clear n0_ n1_ n2_ n3_ n4_ n5_ n6_; clear hb hbox hg; have hnb24 := qk.out; have hnc24 := qh.out; have hcz25_0 : w23.cell? ⟨qd, 0, none⟩ = some (.string (⟨#[]⟩ : ByteArray)) := (blk_cell qf.out 0).trans rfl; have hcz25_1 : w23.cell? ⟨qd, 1, none⟩ = some (.string (⟨#[]⟩ : ByteArray)) := (blk_cell qf.out 1).trans rfl; have hfz25_0 := blk_frozen qf.out 0; have hfz25_1 := blk_frozen qf.out 1))
          repeat (go_quiet (fail); try go_wp2_with (fail))
          go_ret
          exact ⟨by (rfl), by repeat (((with_reducible first | exact HB.out | apply pw_below_drewN | refine below_set ?_ qm.out)))⟩
         ·rw [if_neg c21] at H
          have c21b0 : decide (272 < (((rd_T44 l0_1 x3_2).f0).size : Int)) = false := decide_eq_false c21
          have c21b1 : decide (272 < ((rd_T44 l0_1 x3_2).f0).size) = false := decide_eq_false (by omega)
          clear c21
          by_cases c26 : (((rd_T44 l0_1 x3_2).f1).size : Int) > 160
          ·rw [if_pos c26] at H
           have c26b0 : decide (160 < (((rd_T44 l0_1 x3_2).f1).size : Int)) = true := decide_eq_true c26
           have c26b1 : decide (160 < ((rd_T44 l0_1 x3_2).f1).size) = true := decide_eq_true (by omega)
           clear c26
           obtain rfl := Option.some.inj H
           have hcz27_0 : wr.cell? ⟨qc, 0, none⟩ = some (.bool a0_0) := (blk_cell qb.out 0).trans rfl
           have hcz27_1 : wr.cell? ⟨qc, 1, none⟩ = some (.slice A0_1 l0_1.length c0_1) := (blk_cell qb.out 1).trans rfl
           have hcz27_2 : wr.cell? ⟨qc, 2, none⟩ = some (.slice A0_2 l0_2.length c0_2) := (blk_cell qb.out 2).trans rfl
           have hfz27_0 := blk_frozen qb.out 0
           have hfz27_1 := blk_frozen qb.out 1
           have hfz27_2 := blk_frozen qb.out 2
           have p193 : 0 ≤ (x3_2 : Int) := of_decide_eq_true (by ((with_reducible assumption)))
           have q193 : x3_2 < (l0_1.length : Int) := of_decide_eq_true (by ((with_reducible assumption)))
           obtain ⟨ad193, e193, hx193_0, hx193_1⟩ := at_T44 HR0_1.out x3_2 p193 q193
           cases e193
           replace hx193_0 := (HB.out.cell (World.block_lt_of_cell? w _ hx193_0)).trans hx193_0
           replace hx193_1 := (HB.out.cell (World.block_lt_of_cell? w _ hx193_1)).trans hx193_1
           replace p193 := eq_true p193
           replace q193 := eq_true q193
           go_wp2_with (first | ((with_reducible refine gate_dst (N := 4) rfl ?_); (try (refine gate_guard (by rfl) ?_; dsimp only)); refine box_event ?hg (N := 4) ?hd (cs := #[.string (⟨#[]⟩ : ByteArray), .string (⟨#[]⟩ : ByteArray)]) (t := 44) ?hr ?_; (case hd => rfl); (case hg => rfl); (case hr => ((go_simp; done))); intro qd hg w28 hbox hb; have n0_ := Aside0.mk (blk_below (g := qc) (o := .cells #[.bool a0_0, .slice (some ad193) l0_1.length c0_1, .slice A0_2 l0_2.length c0_2] 25 (0, 0)) (by exact qb.out) hb); have n1_ := Aside0.mk (below_step (by repeat (((with_reducible (exact HB.out))))) hb); have n2_ := Aside0.mk (hbox); have n3_ := Aside0.mk ((by rw [hg]; exact (below_size (by repeat (((with_reducible (exact HB.out)))))) : w.heap.size ≤ qd)); have n4_ := Aside0.mk ((by rw [hg]; exact (below_size (by repeat (((with_reducible (exact HB.out)))))) : w.heap.size ≤ qd)); have n5_ := Aside0.mk ((by rw [hg]; exact Nat.ne_of_lt (blk_lt (g := qc) (o := .cells #[.bool a0_0, .slice (some ad193) l0_1.length c0_1, .slice A0_2 l0_2.length c0_2] 25 (0, 0)) (by exact qb.out)) : qc ≠ qd)); have n6_ := Aside0.mk ((by rw [hg]; exact Nat.ne_of_gt (blk_lt (g := qc) (o := .cells #[.bool a0_0, .slice (some ad193) l0_1.length c0_1, .slice A0_2 l0_2.length c0_2] 25 (0, 0)) (by exact qb.out)) : qd ≠ qc)); clear qb; clear HB; have qb := n0_; have HB := n1_; have qf := n2_; have GW194 := n3_; have qm := n4_; have qh := n5_; have qk := n6_; clear n0_ n1_ n2_ n3_ n4_ n5_ n6_; clear hb hbox hg; have hnb29 := qk.out; have hnc29 := qh.out; have hcz30_0 : w28.cell? ⟨qd, 0, none⟩ = some (.string (⟨#[]⟩ : ByteArray)) := (blk_cell qf.out 0).trans rfl; have hcz30_1 : w28.cell? ⟨qd, 1, none⟩ = some (.string (⟨#[]⟩ : ByteArray)) := (blk_cell qf.out 1).trans rfl; have hfz30_0 := blk_frozen qf.out 0; have hfz30_1 := blk_frozen qf.out 1))
           repeat (go_quiet (fail); try go_wp2_with (fail))
           go_ret
           exact ⟨by (rfl), by repeat (((with_reducible first | exact HB.out | apply pw_below_drewN | refine below_set ?_ qm.out)))⟩
          ·rw [if_neg c26] at H
           have c26b0 : decide (160 < (((rd_T44 l0_1 x3_2).f1).size : Int)) = false := decide_eq_false c26
           have c26b1 : decide (160 < ((rd_T44 l0_1 x3_2).f1).size) = false := decide_eq_false (by omega)
           clear c26
           by_cases c31 : x3_2 > 0
           ·rw [if_pos c31] at H
            have c31b0 : decide (0 < x3_2) = true := decide_eq_true c31
            clear c31
            obtain ⟨ji32, hji32⟩ : ∃ j_ : Int, (wrap64 (x3_2 - 1)) = j_ := ⟨_, rfl⟩
            replace H : (if 0 ≤ (ji32) then (if (ji32) < (l0_1.length : Int) then (if ((Op.bytesLess (((rd_T44 l0_1 (ji32)).f0).toList) (((rd_T44 l0_1 x3_2).f0).toList)) = true) then (coppiceref06_Right.l0 k2 (wrap64 (x3_2 + 1)) a0_0 l0_1 l0_2) else (some false)) else (none)) else (none)) = some r := by ((rw [hji32] at H; exact H))
            have hji32w : (IntKind.i64.wrap (x3_2 - 1)) = ji32 := (i64_w _).trans hji32
            by_cases c33 : 0 ≤ (ji32)
            ·rw [if_pos c33] at H
             have c33b0 : decide (0 ≤ (ji32)) = true := decide_eq_true c33
             clear c33
             by_cases c34 : (ji32) < (l0_1.length : Int)
             ·rw [if_pos c34] at H
              have c34b0 : decide ((ji32) < (l0_1.length : Int)) = true := decide_eq_true c34
              clear c34
              by_cases c35 : ((Op.bytesLess (((rd_T44 l0_1 (ji32)).f0).toList) (((rd_T44 l0_1 x3_2).f0).toList)) = true)
              ·rw [if_pos c35] at H
               have c35b0 : (Op.bytesLess (((rd_T44 l0_1 (ji32)).f0).toList) (((rd_T44 l0_1 x3_2).f0).toList)) = true := c35
               clear c35
               have H' := Aside0.mk H
               clear H
               have hcz36_0 : wr.cell? ⟨qc, 0, none⟩ = some (.bool a0_0) := (blk_cell qb.out 0).trans rfl
               have hcz36_1 : wr.cell? ⟨qc, 1, none⟩ = some (.slice A0_1 l0_1.length c0_1) := (blk_cell qb.out 1).trans rfl
               have hcz36_2 : wr.cell? ⟨qc, 2, none⟩ = some (.slice A0_2 l0_2.length c0_2) := (blk_cell qb.out 2).trans rfl
               have hfz36_0 := blk_frozen qb.out 0
               have hfz36_1 := blk_frozen qb.out 1
               have hfz36_2 := blk_frozen qb.out 2
               have p193 : 0 ≤ (x3_2 : Int) := of_decide_eq_true (by ((with_reducible assumption)))
               have q193 : x3_2 < (l0_1.length : Int) := of_decide_eq_true (by ((with_reducible assumption)))
               obtain ⟨ad193, e193, hx193_0, hx193_1⟩ := at_T44 HR0_1.out x3_2 p193 q193
               cases e193
               replace hx193_0 := (HB.out.cell (World.block_lt_of_cell? w _ hx193_0)).trans hx193_0
               replace hx193_1 := (HB.out.cell (World.block_lt_of_cell? w _ hx193_1)).trans hx193_1
               replace p193 := eq_true p193
               replace q193 := eq_true q193
               go_wp2_with (first | ((with_reducible refine gate_dst (N := 4) rfl ?_); (try (refine gate_guard (by rfl) ?_; dsimp only)); refine box_event ?hg (N := 4) ?hd (cs := #[.string (⟨#[]⟩ : ByteArray), .string (⟨#[]⟩ : ByteArray)]) (t := 44) ?hr ?_; (case hd => rfl); (case hg => rfl); (case hr => ((go_simp; done))); intro qd hg w37 hbox hb; have n0_ := Aside0.mk (blk_below (g := qc) (o := .cells #[.bool a0_0, .slice (some ad193) l0_1.length c0_1, .slice A0_2 l0_2.length c0_2] 25 (0, 0)) (by exact qb.out) hb); have n1_ := Aside0.mk (below_step (by repeat (((with_reducible (exact HB.out))))) hb); have n2_ := Aside0.mk (hbox); have n3_ := Aside0.mk ((by rw [hg]; exact (below_size (by repeat (((with_reducible (exact HB.out)))))) : w.heap.size ≤ qd)); have n4_ := Aside0.mk ((by rw [hg]; exact (below_size (by repeat (((with_reducible (exact HB.out)))))) : w.heap.size ≤ qd)); have n5_ := Aside0.mk ((by rw [hg]; exact Nat.ne_of_lt (blk_lt (g := qc) (o := .cells #[.bool a0_0, .slice (some ad193) l0_1.length c0_1, .slice A0_2 l0_2.length c0_2] 25 (0, 0)) (by exact qb.out)) : qc ≠ qd)); have n6_ := Aside0.mk ((by rw [hg]; exact Nat.ne_of_gt (blk_lt (g := qc) (o := .cells #[.bool a0_0, .slice (some ad193) l0_1.length c0_1, .slice A0_2 l0_2.length c0_2] 25 (0, 0)) (by exact qb.out)) : qd ≠ qc)); clear qb; clear HB; have qb := n0_; have HB := n1_; have qf := n2_; have GW194 := n3_; have qm := n4_; have qh := n5_; have qk := n6_; clear n0_ n1_ n2_ n3_ n4_ n5_ n6_; clear hb hbox hg; have hnb38 := qk.out; have hnc38 := qh.out; have hcz39_0 : w37.cell? ⟨qd, 0, none⟩ = some (.string (⟨#[]⟩ : ByteArray)) := (blk_cell qf.out 0).trans rfl; have hcz39_1 : w37.cell? ⟨qd, 1, none⟩ = some (.string (⟨#[]⟩ : ByteArray)) := (blk_cell qf.out 1).trans rfl; have hfz39_0 := blk_frozen qf.out 0; have hfz39_1 := blk_frozen qf.out 1; have hcz40_0 : w37.cell? ⟨qc, 0, none⟩ = some (.bool a0_0) := (blk_cell qb.out 0).trans rfl; have hcz40_1 : w37.cell? ⟨qc, 1, none⟩ = some (.slice (some ad193) l0_1.length c0_1) := (blk_cell qb.out 1).trans rfl; have hcz40_2 : w37.cell? ⟨qc, 2, none⟩ = some (.slice A0_2 l0_2.length c0_2) := (blk_cell qb.out 2).trans rfl; have hfz40_0 := blk_frozen qb.out 0; have hfz40_1 := blk_frozen qb.out 1; have hfz40_2 := blk_frozen qb.out 2; have p195 : 0 ≤ ((ji32) : Int) := of_decide_eq_true (by ((with_reducible assumption))); have q195 : (ji32) < (l0_1.length : Int) := of_decide_eq_true (by ((with_reducible assumption))); obtain ⟨ad195, e195, hx195_0, hx195_1⟩ := at_T44 HR0_1.out (ji32) p195 q195; obtain rfl : ad193 = ad195 := (by injection e195); have hn195_0 : ad193.block ≠ qd := Nat.ne_of_lt (Nat.lt_of_lt_of_le (by have := World.block_lt_of_cell? _ _ hx195_0; (rwa [add_block] at this)) GW194.out); have hn195_1 : ad193.block ≠ qd := Nat.ne_of_lt (Nat.lt_of_lt_of_le (by have := World.block_lt_of_cell? _ _ hx195_0; (rwa [add_block] at this)) GW194.out); replace hx195_0 := (HB.out.cell (World.block_lt_of_cell? w _ hx195_0)).trans hx195_0; replace hx195_1 := (HB.out.cell (World.block_lt_of_cell? w _ hx195_1)).trans hx195_1; replace hx195_0 := (cell_far (p := ⟨qd, 0, none⟩) (by ((rw [add_block]; exact hn195_0))) (.string ((rd_T44 l0_1 x3_2).f0))).trans hx195_0; replace hx195_1 := (cell_far (p := ⟨qd, 0, none⟩) (by ((rw [add_block]; exact hn195_0))) (.string ((rd_T44 l0_1 x3_2).f0))).trans hx195_1; replace hx195_0 := (cell_far (p := ⟨qd, 1, none⟩) (by ((rw [add_block]; exact hn195_1))) (.string ((rd_T44 l0_1 x3_2).f1))).trans hx195_0; replace hx195_1 := (cell_far (p := ⟨qd, 1, none⟩) (by ((rw [add_block]; exact hn195_1))) (.string ((rd_T44 l0_1 x3_2).f1))).trans hx195_1; (try have qr := fun (n_ : Nat) => (show ((((w37.drewN n_).setCell ⟨qd, 0, none⟩ (.string ((rd_T44 l0_1 x3_2).f0))).setCell ⟨qd, 1, none⟩ (.string ((rd_T44 l0_1 x3_2).f1)))).cell? _ = some _ from hx195_0)); (try have qp := fun (n_ : Nat) => (show ((((w37.drewN n_).setCell ⟨qd, 0, none⟩ (.string ((rd_T44 l0_1 x3_2).f0))).setCell ⟨qd, 1, none⟩ (.string ((rd_T44 l0_1 x3_2).f1)))).cell? _ = some _ from hx195_1)); clear hn195_0; clear hn195_1; replace p195 := eq_true p195; replace q195 := eq_true q195))
               repeat (go_quiet (fail); try go_wp2_with (fail))
               go_roundg k2
               case measure => have := HJ1.out; have := HK2.out; omega
               case rel => exact ⟨(wrap64 (x3_2 + 1)), (by (rfl)), H', ⟨by have := HJ1.out; have := HK2.out; omega⟩, ⟨by (with_reducible repeat ((refine blk_drewN ?_ _))); refine blk_far ?_ qh.out _; refine blk_far ?_ qh.out _; exact qb.out⟩, ⟨by repeat (((with_reducible first | exact HB.out | apply pw_below_drewN | refine below_set ?_ qm.out)))⟩⟩
              ·rw [if_neg c35] at H
               have c35b0 : (Op.bytesLess (((rd_T44 l0_1 (ji32)).f0).toList) (((rd_T44 l0_1 x3_2).f0).toList)) = false := by simpa using c35
               clear c35
               obtain rfl := Option.some.inj H
               have hcz41_0 : wr.cell? ⟨qc, 0, none⟩ = some (.bool a0_0) := (blk_cell qb.out 0).trans rfl
               have hcz41_1 : wr.cell? ⟨qc, 1, none⟩ = some (.slice A0_1 l0_1.length c0_1) := (blk_cell qb.out 1).trans rfl
               have hcz41_2 : wr.cell? ⟨qc, 2, none⟩ = some (.slice A0_2 l0_2.length c0_2) := (blk_cell qb.out 2).trans rfl
               have hfz41_0 := blk_frozen qb.out 0
               have hfz41_1 := blk_frozen qb.out 1
               have hfz41_2 := blk_frozen qb.out 2
               have p193 : 0 ≤ (x3_2 : Int) := of_decide_eq_true (by ((with_reducible assumption)))
               have q193 : x3_2 < (l0_1.length : Int) := of_decide_eq_true (by ((with_reducible assumption)))
               obtain ⟨ad193, e193, hx193_0, hx193_1⟩ := at_T44 HR0_1.out x3_2 p193 q193
               cases e193
               replace hx193_0 := (HB.out.cell (World.block_lt_of_cell? w _ hx193_0)).trans hx193_0
               replace hx193_1 := (HB.out.cell (World.block_lt_of_cell? w _ hx193_1)).trans hx193_1
               replace p193 := eq_true p193
               replace q193 := eq_true q193
               go_wp2_with (first | ((with_reducible refine gate_dst (N := 4) rfl ?_); (try (refine gate_guard (by rfl) ?_; dsimp only)); refine box_event ?hg (N := 4) ?hd (cs := #[.string (⟨#[]⟩ : ByteArray), .string (⟨#[]⟩ : ByteArray)]) (t := 44) ?hr ?_; (case hd => rfl); (case hg => rfl); (case hr => ((go_simp; done))); intro qd hg w42 hbox hb; have n0_ := Aside0.mk (blk_below (g := qc) (o := .cells #[.bool a0_0, .slice (some ad193) l0_1.length c0_1, .slice A0_2 l0_2.length c0_2] 25 (0, 0)) (by exact qb.out) hb); have n1_ := Aside0.mk (below_step (by repeat (((with_reducible (exact HB.out))))) hb); have n2_ := Aside0.mk (hbox); have n3_ := Aside0.mk ((by rw [hg]; exact (below_size (by repeat (((with_reducible (exact HB.out)))))) : w.heap.size ≤ qd)); have n4_ := Aside0.mk ((by rw [hg]; exact (below_size (by repeat (((with_reducible (exact HB.out)))))) : w.heap.size ≤ qd)); have n5_ := Aside0.mk ((by rw [hg]; exact Nat.ne_of_lt (blk_lt (g := qc) (o := .cells #[.bool a0_0, .slice (some ad193) l0_1.length c0_1, .slice A0_2 l0_2.length c0_2] 25 (0, 0)) (by exact qb.out)) : qc ≠ qd)); have n6_ := Aside0.mk ((by rw [hg]; exact Nat.ne_of_gt (blk_lt (g := qc) (o := .cells #[.bool a0_0, .slice (some ad193) l0_1.length c0_1, .slice A0_2 l0_2.length c0_2] 25 (0, 0)) (by exact qb.out)) : qd ≠ qc)); clear qb; clear HB; have qb := n0_; have HB := n1_; have qf := n2_; have GW194 := n3_; have qm := n4_; have qh := n5_; have qk := n6_; clear n0_ n1_ n2_ n3_ n4_ n5_ n6_; clear hb hbox hg; have hnb43 := qk.out; have hnc43 := qh.out; have hcz44_0 : w42.cell? ⟨qd, 0, none⟩ = some (.string (⟨#[]⟩ : ByteArray)) := (blk_cell qf.out 0).trans rfl; have hcz44_1 : w42.cell? ⟨qd, 1, none⟩ = some (.string (⟨#[]⟩ : ByteArray)) := (blk_cell qf.out 1).trans rfl; have hfz44_0 := blk_frozen qf.out 0; have hfz44_1 := blk_frozen qf.out 1; have hcz45_0 : w42.cell? ⟨qc, 0, none⟩ = some (.bool a0_0) := (blk_cell qb.out 0).trans rfl; have hcz45_1 : w42.cell? ⟨qc, 1, none⟩ = some (.slice (some ad193) l0_1.length c0_1) := (blk_cell qb.out 1).trans rfl; have hcz45_2 : w42.cell? ⟨qc, 2, none⟩ = some (.slice A0_2 l0_2.length c0_2) := (blk_cell qb.out 2).trans rfl; have hfz45_0 := blk_frozen qb.out 0; have hfz45_1 := blk_frozen qb.out 1; have hfz45_2 := blk_frozen qb.out 2; have p195 : 0 ≤ ((ji32) : Int) := of_decide_eq_true (by ((with_reducible assumption))); have q195 : (ji32) < (l0_1.length : Int) := of_decide_eq_true (by ((with_reducible assumption))); obtain ⟨ad195, e195, hx195_0, hx195_1⟩ := at_T44 HR0_1.out (ji32) p195 q195; obtain rfl : ad193 = ad195 := (by injection e195); have hn195_0 : ad193.block ≠ qd := Nat.ne_of_lt (Nat.lt_of_lt_of_le (by have := World.block_lt_of_cell? _ _ hx195_0; (rwa [add_block] at this)) GW194.out); have hn195_1 : ad193.block ≠ qd := Nat.ne_of_lt (Nat.lt_of_lt_of_le (by have := World.block_lt_of_cell? _ _ hx195_0; (rwa [add_block] at this)) GW194.out); replace hx195_0 := (HB.out.cell (World.block_lt_of_cell? w _ hx195_0)).trans hx195_0; replace hx195_1 := (HB.out.cell (World.block_lt_of_cell? w _ hx195_1)).trans hx195_1; replace hx195_0 := (cell_far (p := ⟨qd, 0, none⟩) (by ((rw [add_block]; exact hn195_0))) (.string ((rd_T44 l0_1 x3_2).f0))).trans hx195_0; replace hx195_1 := (cell_far (p := ⟨qd, 0, none⟩) (by ((rw [add_block]; exact hn195_0))) (.string ((rd_T44 l0_1 x3_2).f0))).trans hx195_1; replace hx195_0 := (cell_far (p := ⟨qd, 1, none⟩) (by ((rw [add_block]; exact hn195_1))) (.string ((rd_T44 l0_1 x3_2).f1))).trans hx195_0; replace hx195_1 := (cell_far (p := ⟨qd, 1, none⟩) (by ((rw [add_block]; exact hn195_1))) (.string ((rd_T44 l0_1 x3_2).f1))).trans hx195_1; (try have qr := fun (n_ : Nat) => (show ((((w42.drewN n_).setCell ⟨qd, 0, none⟩ (.string ((rd_T44 l0_1 x3_2).f0))).setCell ⟨qd, 1, none⟩ (.string ((rd_T44 l0_1 x3_2).f1)))).cell? _ = some _ from hx195_0)); (try have qp := fun (n_ : Nat) => (show ((((w42.drewN n_).setCell ⟨qd, 0, none⟩ (.string ((rd_T44 l0_1 x3_2).f0))).setCell ⟨qd, 1, none⟩ (.string ((rd_T44 l0_1 x3_2).f1)))).cell? _ = some _ from hx195_1)); clear hn195_0; clear hn195_1; replace p195 := eq_true p195; replace q195 := eq_true q195))
               repeat (go_quiet (fail); try go_wp2_with (fail))
               go_ret
               exact ⟨by (rfl), by repeat (((with_reducible first | exact HB.out | apply pw_below_drewN | refine below_set ?_ qm.out)))⟩
             ·rw [if_neg c34] at H
              exact absurd H (by simp)
            ·rw [if_neg c33] at H
             exact absurd H (by simp)
           ·rw [if_neg c31] at H
            have c31b0 : decide (0 < x3_2) = false := decide_eq_false c31
            clear c31
            have H' := Aside0.mk H
            clear H
            have hcz46_0 : wr.cell? ⟨qc, 0, none⟩ = some (.bool a0_0) := (blk_cell qb.out 0).trans rfl
            have hcz46_1 : wr.cell? ⟨qc, 1, none⟩ = some (.slice A0_1 l0_1.length c0_1) := (blk_cell qb.out 1).trans rfl
            have hcz46_2 : wr.cell? ⟨qc, 2, none⟩ = some (.slice A0_2 l0_2.length c0_2) := (blk_cell qb.out 2).trans rfl
            have hfz46_0 := blk_frozen qb.out 0
            have hfz46_1 := blk_frozen qb.out 1
            have hfz46_2 := blk_frozen qb.out 2
            have p193 : 0 ≤ (x3_2 : Int) := of_decide_eq_true (by ((with_reducible assumption)))
            have q193 : x3_2 < (l0_1.length : Int) := of_decide_eq_true (by ((with_reducible assumption)))
            obtain ⟨ad193, e193, hx193_0, hx193_1⟩ := at_T44 HR0_1.out x3_2 p193 q193
            cases e193
            replace hx193_0 := (HB.out.cell (World.block_lt_of_cell? w _ hx193_0)).trans hx193_0
            replace hx193_1 := (HB.out.cell (World.block_lt_of_cell? w _ hx193_1)).trans hx193_1
            replace p193 := eq_true p193
            replace q193 := eq_true q193
            go_wp2_with (first | ((with_reducible refine gate_dst (N := 4) rfl ?_); (try (refine gate_guard (by rfl) ?_; dsimp only)); refine box_event ?hg (N := 4) ?hd (cs := #[.string (⟨#[]⟩ : ByteArray), .string (⟨#[]⟩ : ByteArray)]) (t := 44) ?hr ?_; (case hd => rfl); (case hg => rfl); (case hr => ((go_simp; done))); intro qd hg w47 hbox hb; have n0_ := Aside0.mk (blk_below (g := qc) (o := .cells #[.bool a0_0, .slice (some ad193) l0_1.length c0_1, .slice A0_2 l0_2.length c0_2] 25 (0, 0)) (by exact qb.out) hb); have n1_ := Aside0.mk (below_step (by repeat (((with_reducible (exact HB.out))))) hb); have n2_ := Aside0.mk (hbox); have n3_ := Aside0.mk ((by rw [hg]; exact (below_size (by repeat (((with_reducible (exact HB.out)))))) : w.heap.size ≤ qd)); have n4_ := Aside0.mk ((by rw [hg]; exact (below_size (by repeat (((with_reducible (exact HB.out)))))) : w.heap.size ≤ qd)); have n5_ := Aside0.mk ((by rw [hg]; exact Nat.ne_of_lt (blk_lt (g := qc) (o := .cells #[.bool a0_0, .slice (some ad193) l0_1.length c0_1, .slice A0_2 l0_2.length c0_2] 25 (0, 0)) (by exact qb.out)) : qc ≠ qd)); have n6_ := Aside0.mk ((by rw [hg]; exact Nat.ne_of_gt (blk_lt (g := qc) (o := .cells #[.bool a0_0, .slice (some ad193) l0_1.length c0_1, .slice A0_2 l0_2.length c0_2] 25 (0, 0)) (by exact qb.out)) : qd ≠ qc)); clear qb; clear HB; have qb := n0_; have HB := n1_; have qf := n2_; have GW194 := n3_; have qm := n4_; have qh := n5_; have qk := n6_; clear n0_ n1_ n2_ n3_ n4_ n5_ n6_; clear hb hbox hg; have hnb48 := qk.out; have hnc48 := qh.out; have hcz49_0 : w47.cell? ⟨qd, 0, none⟩ = some (.string (⟨#[]⟩ : ByteArray)) := (blk_cell qf.out 0).trans rfl; have hcz49_1 : w47.cell? ⟨qd, 1, none⟩ = some (.string (⟨#[]⟩ : ByteArray)) := (blk_cell qf.out 1).trans rfl; have hfz49_0 := blk_frozen qf.out 0; have hfz49_1 := blk_frozen qf.out 1))
            repeat (go_quiet (fail); try go_wp2_with (fail))
            go_roundg k2
            case measure => have := HJ1.out; have := HK2.out; omega
            case rel => exact ⟨(wrap64 (x3_2 + 1)), (by (rfl)), H', ⟨by have := HJ1.out; have := HK2.out; omega⟩, ⟨by (with_reducible repeat ((refine blk_drewN ?_ _))); refine blk_far ?_ qh.out _; refine blk_far ?_ qh.out _; exact qb.out⟩, ⟨by repeat (((with_reducible first | exact HB.out | apply pw_below_drewN | refine below_set ?_ qm.out)))⟩⟩
       ·rw [if_neg c15] at H
        exact absurd H (by simp)
      ·rw [if_neg c14] at H
       have c14b0 : decide (x3_2 < (l0_1.length : Int)) = false := decide_eq_false c14
       clear c14
       have H' := Aside0.mk H
       clear H
       have hcz50_0 : wr.cell? ⟨qc, 0, none⟩ = some (.bool a0_0) := (blk_cell qb.out 0).trans rfl
       have hcz50_1 : wr.cell? ⟨qc, 1, none⟩ = some (.slice A0_1 l0_1.length c0_1) := (blk_cell qb.out 1).trans rfl
       have hcz50_2 : wr.cell? ⟨qc, 2, none⟩ = some (.slice A0_2 l0_2.length c0_2) := (blk_cell qb.out 2).trans rfl
       have hfz50_0 := blk_frozen qb.out 0
       have hfz50_1 := blk_frozen qb.out 1
       have hfz50_2 := blk_frozen qb.out 2
       go_wp2
       repeat (go_quiet (fail); try go_wp2)
       go_loopg [5] k2 (fun kq v5 w' => ∃ (x5_3 : Int), v5 = .int .i64 x5_3 ∧ Aside0 (coppiceref06_Right.l1 kq x5_3 a0_0 l0_1 l0_2 = some r) ∧ Aside0 (kq ≤ k2) ∧ Aside0 (w'.heap[qc]? = some (.cells #[.bool a0_0, (.slice A0_1 l0_1.length c0_1), (.slice A0_2 l0_2.length c0_2)] 25 (0, 0))) ∧ Aside0 (Below w.heap.size w w'))
       case atStart => exact ⟨(0), (by (rfl)), H', ⟨Nat.le_refl _⟩, ⟨by exact qb.out⟩, ⟨by repeat (((with_reducible (exact HB.out))))⟩⟩
       case round =>
        clear H'
        try clear c1
        try clear p1
        try clear q1
        try clear hx1
        try clear c2
        try clear p2
        try clear c3
        try clear c4
        try clear c5
        try clear c5b0
        try clear c5b1
        try clear c5b2
        try clear p6
        try clear c7
        try clear c7b0
        try clear c7b1
        try clear c10
        try clear c10b0
        try clear c10b1
        try clear c10b2
        try clear c13
        try clear c14
        try clear c14b0
        try clear c15
        try clear c15b0
        try clear c16
        try clear c16b0
        try clear c16b1
        try clear c19
        try clear p19
        try clear q19
        try clear hx19
        try clear c21
        try clear c21b0
        try clear c21b1
        try clear c24
        try clear c26
        try clear c26b0
        try clear c26b1
        try clear c28
        try clear c29
        try clear c31
        try clear c31b0
        try clear c33
        try clear c33b0
        try clear c34
        try clear c34b0
        try clear c35
        try clear c35b0
        try clear c38
        try clear c43
        try clear c48
        try clear hcz11_0
        try clear hcz11_1
        try clear hcz11_2
        try clear hcz12_0
        try clear hcz12_1
        try clear hcz12_2
        try clear hcz17_0
        try clear hcz17_1
        try clear hcz17_2
        try clear hcz20_0
        try clear hcz20_1
        try clear hcz22_0
        try clear hcz22_1
        try clear hcz22_2
        try clear hcz25_0
        try clear hcz25_1
        try clear hcz27_0
        try clear hcz27_1
        try clear hcz27_2
        try clear hcz30_0
        try clear hcz30_1
        try clear hcz36_0
        try clear hcz36_1
        try clear hcz36_2
        try clear hcz39_0
        try clear hcz39_1
        try clear hcz40_0
        try clear hcz40_1
        try clear hcz40_2
        try clear hcz41_0
        try clear hcz41_1
        try clear hcz41_2
        try clear hcz44_0
        try clear hcz44_1
        try clear hcz45_0
        try clear hcz45_1
        try clear hcz45_2
        try clear hcz46_0
        try clear hcz46_1
        try clear hcz46_2
        try clear hcz49_0
        try clear hcz49_1
        try clear hcz50_0
        try clear hcz50_1
        try clear hcz50_2
        try clear hcz6_0
        try clear hcz6_1
        try clear hcz6_2
        try clear hcz8_0
        try clear hcz8_1
        try clear hcz8_2
        try clear hcz9_0
        try clear hcz9_1
        try clear hcz9_2
        try clear hfz11_0
        try clear hfz11_1
        try clear hfz11_2
        try clear hfz12_0
        try clear hfz12_1
        try clear hfz12_2
        try clear hfz17_0
        try clear hfz17_1
        try clear hfz17_2
        try clear hfz20_0
        try clear hfz20_1
        try clear hfz22_0
        try clear hfz22_1
        try clear hfz22_2
        try clear hfz25_0
        try clear hfz25_1
        try clear hfz27_0
        try clear hfz27_1
        try clear hfz27_2
        try clear hfz30_0
        try clear hfz30_1
        try clear hfz36_0
        try clear hfz36_1
        try clear hfz36_2
        try clear hfz39_0
        try clear hfz39_1
        try clear hfz40_0
        try clear hfz40_1
        try clear hfz40_2
        try clear hfz41_0
        try clear hfz41_1
        try clear hfz41_2
        try clear hfz44_0
        try clear hfz44_1
        try clear hfz45_0
        try clear hfz45_1
        try clear hfz45_2
        try clear hfz46_0
        try clear hfz46_1
        try clear hfz46_2
        try clear hfz49_0
        try clear hfz49_1
        try clear hfz50_0
        try clear hfz50_1
        try clear hfz50_2
        try clear hfz6_0
        try clear hfz6_1
        try clear hfz6_2
        try clear hfz8_0
        try clear hfz8_1
        try clear hfz8_2
        try clear hfz9_0
        try clear hfz9_1
        try clear hfz9_2
        try clear hx193_0
        try clear hx193_1
        try clear hx195_0
        try clear hx195_1
        try clear p193
        try clear p195
        try clear p2
        try clear q193
        try clear q195
        obtain ⟨x5_3, rfl, HA, HK3, qb, HB⟩ := hrel
        cases gk with
        | zero => exact absurd HA.out (by simp [coppiceref06_Right.l1])
        | succ k3 =>
         have H := HA.out
         clear HA
         simp only [coppiceref06_Right.l1] at H
         by_cases c51 : x5_3 < (l0_2.length : Int)
         ·rw [if_pos c51] at H
          have c51b0 : decide (x5_3 < (l0_2.length : Int)) = true := decide_eq_true c51
          clear c51
          by_cases c52 : 0 ≤ x5_3
          ·rw [if_pos c52] at H
           have c52b0 : decide (0 ≤ x5_3) = true := decide_eq_true c52
           clear c52
           by_cases c53 : (((rd_T46 l0_2 x5_3).f0).size : Int) > 272
           ·rw [if_pos c53] at H
            have c53b0 : decide (272 < (((rd_T46 l0_2 x5_3).f0).size : Int)) = true := decide_eq_true c53
            have c53b1 : decide (272 < ((rd_T46 l0_2 x5_3).f0).size) = true := decide_eq_true (by omega)
            clear c53
            obtain rfl := Option.some.inj H
            have hcz54_0 : wr.cell? ⟨qc, 0, none⟩ = some (.bool a0_0) := (blk_cell qb.out 0).trans rfl
            have hcz54_1 : wr.cell? ⟨qc, 1, none⟩ = some (.slice A0_1 l0_1.length c0_1) := (blk_cell qb.out 1).trans rfl
            have hcz54_2 : wr.cell? ⟨qc, 2, none⟩ = some (.slice A0_2 l0_2.length c0_2) := (blk_cell qb.out 2).trans rfl
            have hfz54_0 := blk_frozen qb.out 0
            have hfz54_1 := blk_frozen qb.out 1
            have hfz54_2 := blk_frozen qb.out 2
            have p196 : 0 ≤ (x5_3 : Int) := of_decide_eq_true (by ((with_reducible assumption)))
            have q196 : x5_3 < (l0_2.length : Int) := of_decide_eq_true (by ((with_reducible assumption)))
            obtain ⟨ad196, e196, hx196_0, hx196_1⟩ := at_T46 HR0_2.out x5_3 p196 q196
            cases e196
            replace hx196_0 := (HB.out.cell (World.block_lt_of_cell? w _ hx196_0)).trans hx196_0
            replace hx196_1 := (HB.out.cell (World.block_lt_of_cell? w _ hx196_1)).trans hx196_1
            replace p196 := eq_true p196
            replace q196 := eq_true q196
            go_wp2_with (first | ((with_reducible refine gate_dst (N := 6) rfl ?_); (try (refine gate_guard (by rfl) ?_; dsimp only)); refine box_event ?hg (N := 6) ?hd (cs := #[.string (⟨#[]⟩ : ByteArray), .int .i64 0]) (t := 46) ?hr ?_; (case hd => rfl); (case hg => rfl); (case hr => ((go_simp; done))); intro qe hg w55 hbox hb; have n0_ := Aside0.mk (blk_below (g := qc) (o := .cells #[.bool a0_0, .slice A0_1 l0_1.length c0_1, .slice (some ad196) l0_2.length c0_2] 25 (0, 0)) (by exact qb.out) hb); have n1_ := Aside0.mk (below_step (by repeat (((with_reducible (exact HB.out))))) hb); have n2_ := Aside0.mk (hbox); have n3_ := Aside0.mk ((by rw [hg]; exact (below_size (by repeat (((with_reducible (exact HB.out)))))) : w.heap.size ≤ qe)); have n4_ := Aside0.mk ((by rw [hg]; exact (below_size (by repeat (((with_reducible (exact HB.out)))))) : w.heap.size ≤ qe)); have n5_ := Aside0.mk ((by rw [hg]; exact Nat.ne_of_lt (blk_lt (g := qc) (o := .cells #[.bool a0_0, .slice A0_1 l0_1.length c0_1, .slice (some ad196) l0_2.length c0_2] 25 (0, 0)) (by exact qb.out)) : qc ≠ qe)); have n6_ := Aside0.mk ((by rw [hg]; exact Nat.ne_of_gt (blk_lt (g := qc) (o := .cells #[.bool a0_0, .slice A0_1 l0_1.length c0_1, .slice (some ad196) l0_2.length c0_2] 25 (0, 0)) (by exact qb.out)) : qe ≠ qc)); clear qb; clear HB; have qb := n0_; have HB := n1_; have qg := n2_; have GW197 := n3_; have ql := n4_; have qi := n5_; have qj := n6_; clear n0_ n1_ n2_ n3_ n4_ n5_ n6_; clear hb hbox hg; have hnb56 := qj.out; have hnc56 := qi.out; have hcz57_0 : w55.cell? ⟨qe, 0, none⟩ = some (.string (⟨#[]⟩ : ByteArray)) := (blk_cell qg.out 0).trans rfl; have hcz57_1 : w55.cell? ⟨qe, 1, none⟩ = some (.int .i64 0) := (blk_cell qg.out 1).trans rfl; have hfz57_0 := blk_frozen qg.out 0; have hfz57_1 := blk_frozen qg.out 1))
            repeat (go_quiet (fail); try go_wp2_with (fail))
            go_ret
            exact ⟨by (rfl), by repeat (((with_reducible first | exact HB.out | apply pw_below_drewN | refine below_set ?_ ql.out)))⟩
           ·rw [if_neg c53] at H
            have c53b0 : decide (272 < (((rd_T46 l0_2 x5_3).f0).size : Int)) = false := decide_eq_false c53
            have c53b1 : decide (272 < ((rd_T46 l0_2 x5_3).f0).size) = false := decide_eq_false (by omega)
            clear c53
            by_cases c58 : ((rd_T46 l0_2 x5_3).f1) < 2
            ·rw [if_pos c58] at H
             have c58b0 : decide (((rd_T46 l0_2 x5_3).f1) < 2) = true := decide_eq_true c58
             clear c58
             obtain rfl := Option.some.inj H
             have hcz59_0 : wr.cell? ⟨qc, 0, none⟩ = some (.bool a0_0) := (blk_cell qb.out 0).trans rfl
             have hcz59_1 : wr.cell? ⟨qc, 1, none⟩ = some (.slice A0_1 l0_1.length c0_1) := (blk_cell qb.out 1).trans rfl
             have hcz59_2 : wr.cell? ⟨qc, 2, none⟩ = some (.slice A0_2 l0_2.length c0_2) := (blk_cell qb.out 2).trans rfl
             have hfz59_0 := blk_frozen qb.out 0
             have hfz59_1 := blk_frozen qb.out 1
             have hfz59_2 := blk_frozen qb.out 2
             have p196 : 0 ≤ (x5_3 : Int) := of_decide_eq_true (by ((with_reducible assumption)))
             have q196 : x5_3 < (l0_2.length : Int) := of_decide_eq_true (by ((with_reducible assumption)))
             obtain ⟨ad196, e196, hx196_0, hx196_1⟩ := at_T46 HR0_2.out x5_3 p196 q196
             cases e196
             replace hx196_0 := (HB.out.cell (World.block_lt_of_cell? w _ hx196_0)).trans hx196_0
             replace hx196_1 := (HB.out.cell (World.block_lt_of_cell? w _ hx196_1)).trans hx196_1
             replace p196 := eq_true p196
             replace q196 := eq_true q196
             go_wp2_with (first | ((with_reducible refine gate_dst (N := 6) rfl ?_); (try (refine gate_guard (by rfl) ?_; dsimp only)); refine box_event ?hg (N := 6) ?hd (cs := #[.string (⟨#[]⟩ : ByteArray), .int .i64 0]) (t := 46) ?hr ?_; (case hd => rfl); (case hg => rfl); (case hr => ((go_simp; done))); intro qe hg w60 hbox hb; have n0_ := Aside0.mk (blk_below (g := qc) (o := .cells #[.bool a0_0, .slice A0_1 l0_1.length c0_1, .slice (some ad196) l0_2.length c0_2] 25 (0, 0)) (by exact qb.out) hb); have n1_ := Aside0.mk (below_step (by repeat (((with_reducible (exact HB.out))))) hb); have n2_ := Aside0.mk (hbox); have n3_ := Aside0.mk ((by rw [hg]; exact (below_size (by repeat (((with_reducible (exact HB.out)))))) : w.heap.size ≤ qe)); have n4_ := Aside0.mk ((by rw [hg]; exact (below_size (by repeat (((with_reducible (exact HB.out)))))) : w.heap.size ≤ qe)); have n5_ := Aside0.mk ((by rw [hg]; exact Nat.ne_of_lt (blk_lt (g := qc) (o := .cells #[.bool a0_0, .slice A0_1 l0_1.length c0_1, .slice (some ad196) l0_2.length c0_2] 25 (0, 0)) (by exact qb.out)) : qc ≠ qe)); have n6_ := Aside0.mk ((by rw [hg]; exact Nat.ne_of_gt (blk_lt (g := qc) (o := .cells #[.bool a0_0, .slice A0_1 l0_1.length c0_1, .slice (some ad196) l0_2.length c0_2] 25 (0, 0)) (by exact qb.out)) : qe ≠ qc)); clear qb; clear HB; have qb := n0_; have HB := n1_; have qg := n2_; have GW197 := n3_; have ql := n4_; have qi := n5_; have qj := n6_; clear n0_ n1_ n2_ n3_ n4_ n5_ n6_; clear hb hbox hg; have hnb61 := qj.out; have hnc61 := qi.out; have hcz62_0 : w60.cell? ⟨qe, 0, none⟩ = some (.string (⟨#[]⟩ : ByteArray)) := (blk_cell qg.out 0).trans rfl; have hcz62_1 : w60.cell? ⟨qe, 1, none⟩ = some (.int .i64 0) := (blk_cell qg.out 1).trans rfl; have hfz62_0 := blk_frozen qg.out 0; have hfz62_1 := blk_frozen qg.out 1))
             repeat (go_quiet (fail); try go_wp2_with (fail))
             go_ret
             exact ⟨by (rfl), by repeat (((with_reducible first | exact HB.out | apply pw_below_drewN | refine below_set ?_ ql.out)))⟩
            ·rw [if_neg c58] at H
             have c58b0 : decide (((rd_T46 l0_2 x5_3).f1) < 2) = false := decide_eq_false c58
             clear c58
             by_cases c63 : ((rd_T46 l0_2 x5_3).f1) > 4095
             ·rw [if_pos c63] at H
              have c63b0 : decide (4095 < ((rd_T46 l0_2 x5_3).f1)) = true := decide_eq_true c63
              clear c63
              obtain rfl := Option.some.inj H
              have hcz64_0 : wr.cell? ⟨qc, 0, none⟩ = some (.bool a0_0) := (blk_cell qb.out 0).trans rfl
              have hcz64_1 : wr.cell? ⟨qc, 1, none⟩ = some (.slice A0_1 l0_1.length c0_1) := (blk_cell qb.out 1).trans rfl
              have hcz64_2 : wr.cell? ⟨qc, 2, none⟩ = some (.slice A0_2 l0_2.length c0_2) := (blk_cell qb.out 2).trans rfl
              have hfz64_0 := blk_frozen qb.out 0
              have hfz64_1 := blk_frozen qb.out 1
              have hfz64_2 := blk_frozen qb.out 2
              have p196 : 0 ≤ (x5_3 : Int) := of_decide_eq_true (by ((with_reducible assumption)))
              have q196 : x5_3 < (l0_2.length : Int) := of_decide_eq_true (by ((with_reducible assumption)))
              obtain ⟨ad196, e196, hx196_0, hx196_1⟩ := at_T46 HR0_2.out x5_3 p196 q196
              cases e196
              replace hx196_0 := (HB.out.cell (World.block_lt_of_cell? w _ hx196_0)).trans hx196_0
              replace hx196_1 := (HB.out.cell (World.block_lt_of_cell? w _ hx196_1)).trans hx196_1
              replace p196 := eq_true p196
              replace q196 := eq_true q196
              go_wp2_with (first | ((with_reducible refine gate_dst (N := 6) rfl ?_); (try (refine gate_guard (by rfl) ?_; dsimp only)); refine box_event ?hg (N := 6) ?hd (cs := #[.string (⟨#[]⟩ : ByteArray), .int .i64 0]) (t := 46) ?hr ?_; (case hd => rfl); (case hg => rfl); (case hr => ((go_simp; done))); intro qe hg w65 hbox hb; have n0_ := Aside0.mk (blk_below (g := qc) (o := .cells #[.bool a0_0, .slice A0_1 l0_1.length c0_1, .slice (some ad196) l0_2.length c0_2] 25 (0, 0)) (by exact qb.out) hb); have n1_ := Aside0.mk (below_step (by repeat (((with_reducible (exact HB.out))))) hb); have n2_ := Aside0.mk (hbox); have n3_ := Aside0.mk ((by rw [hg]; exact (below_size (by repeat (((with_reducible (exact HB.out)))))) : w.heap.size ≤ qe)); have n4_ := Aside0.mk ((by rw [hg]; exact (below_size (by repeat (((with_reducible (exact HB.out)))))) : w.heap.size ≤ qe)); have n5_ := Aside0.mk ((by rw [hg]; exact Nat.ne_of_lt (blk_lt (g := qc) (o := .cells #[.bool a0_0, .slice A0_1 l0_1.length c0_1, .slice (some ad196) l0_2.length c0_2] 25 (0, 0)) (by exact qb.out)) : qc ≠ qe)); have n6_ := Aside0.mk ((by rw [hg]; exact Nat.ne_of_gt (blk_lt (g := qc) (o := .cells #[.bool a0_0, .slice A0_1 l0_1.length c0_1, .slice (some ad196) l0_2.length c0_2] 25 (0, 0)) (by exact qb.out)) : qe ≠ qc)); clear qb; clear HB; have qb := n0_; have HB := n1_; have qg := n2_; have GW197 := n3_; have ql := n4_; have qi := n5_; have qj := n6_; clear n0_ n1_ n2_ n3_ n4_ n5_ n6_; clear hb hbox hg; have hnb66 := qj.out; have hnc66 := qi.out; have hcz67_0 : w65.cell? ⟨qe, 0, none⟩ = some (.string (⟨#[]⟩ : ByteArray)) := (blk_cell qg.out 0).trans rfl; have hcz67_1 : w65.cell? ⟨qe, 1, none⟩ = some (.int .i64 0) := (blk_cell qg.out 1).trans rfl; have hfz67_0 := blk_frozen qg.out 0; have hfz67_1 := blk_frozen qg.out 1))
              repeat (go_quiet (fail); try go_wp2_with (fail))
              go_ret
              exact ⟨by (rfl), by repeat (((with_reducible first | exact HB.out | apply pw_below_drewN | refine below_set ?_ ql.out)))⟩
             ·rw [if_neg c63] at H
              have c63b0 : decide (4095 < ((rd_T46 l0_2 x5_3).f1)) = false := decide_eq_false c63
              clear c63
              by_cases c68 : x5_3 > 0
              ·rw [if_pos c68] at H
               have c68b0 : decide (0 < x5_3) = true := decide_eq_true c68
               clear c68
               obtain ⟨ji69, hji69⟩ : ∃ j_ : Int, (wrap64 (x5_3 - 1)) = j_ := ⟨_, rfl⟩
               replace H : (if 0 ≤ (ji69) then (if (ji69) < (l0_2.length : Int) then (if ((Op.bytesLess (((rd_T46 l0_2 (ji69)).f0).toList) (((rd_T46 l0_2 x5_3).f0).toList)) = true) then (coppiceref06_Right.l1 k3 (wrap64 (x5_3 + 1)) a0_0 l0_1 l0_2) else (some false)) else (none)) else (none)) = some r := by ((rw [hji69] at H; exact H))
               have hji69w : (IntKind.i64.wrap (x5_3 - 1)) = ji69 := (i64_w _).trans hji69
               by_cases c70 : 0 ≤ (ji69)
               ·rw [if_pos c70] at H
                have c70b0 : decide (0 ≤ (ji69)) = true := decide_eq_true c70
                clear c70
                by_cases c71 : (ji69) < (l0_2.length : Int)
                ·rw [if_pos c71] at H
                 have c71b0 : decide ((ji69) < (l0_2.length : Int)) = true := decide_eq_true c71
                 clear c71
                 by_cases c72 : ((Op.bytesLess (((rd_T46 l0_2 (ji69)).f0).toList) (((rd_T46 l0_2 x5_3).f0).toList)) = true)
                 ·rw [if_pos c72] at H
                  have c72b0 : (Op.bytesLess (((rd_T46 l0_2 (ji69)).f0).toList) (((rd_T46 l0_2 x5_3).f0).toList)) = true := c72
                  clear c72
                  have H' := Aside0.mk H
                  clear H
                  have hcz73_0 : wr.cell? ⟨qc, 0, none⟩ = some (.bool a0_0) := (blk_cell qb.out 0).trans rfl
                  have hcz73_1 : wr.cell? ⟨qc, 1, none⟩ = some (.slice A0_1 l0_1.length c0_1) := (blk_cell qb.out 1).trans rfl
                  have hcz73_2 : wr.cell? ⟨qc, 2, none⟩ = some (.slice A0_2 l0_2.length c0_2) := (blk_cell qb.out 2).trans rfl
                  have hfz73_0 := blk_frozen qb.out 0
                  have hfz73_1 := blk_frozen qb.out 1
                  have hfz73_2 := blk_frozen qb.out 2
                  have p196 : 0 ≤ (x5_3 : Int) := of_decide_eq_true (by ((with_reducible assumption)))
                  have q196 : x5_3 < (l0_2.length : Int) := of_decide_eq_true (by ((with_reducible assumption)))
                  obtain ⟨ad196, e196, hx196_0, hx196_1⟩ := at_T46 HR0_2.out x5_3 p196 q196
                  cases e196
                  replace hx196_0 := (HB.out.cell (World.block_lt_of_cell? w _ hx196_0)).trans hx196_0
                  replace hx196_1 := (HB.out.cell (World.block_lt_of_cell? w _ hx196_1)).trans hx196_1
                  replace p196 := eq_true p196
                  replace q196 := eq_true q196
                  go_wp2_with (first | ((with_reducible refine gate_dst (N := 6) rfl ?_); (try (refine gate_guard (by rfl) ?_; dsimp only)); refine box_event ?hg (N := 6) ?hd (cs := #[.string (⟨#[]⟩ : ByteArray), .int .i64 0]) (t := 46) ?hr ?_; (case hd => rfl); (case hg => rfl); (case hr => ((go_simp; done))); intro qe hg w74 hbox hb; have n0_ := Aside0.mk (blk_below (g := qc) (o := .cells #[.bool a0_0, .slice A0_1 l0_1.length c0_1, .slice (some ad196) l0_2.length c0_2] 25 (0, 0)) (by exact qb.out) hb); have n1_ := Aside0.mk (below_step (by repeat (((with_reducible (exact HB.out))))) hb); have n2_ := Aside0.mk (hbox); have n3_ := Aside0.mk ((by rw [hg]; exact (below_size (by repeat (((with_reducible (exact HB.out)))))) : w.heap.size ≤ qe)); have n4_ := Aside0.mk ((by rw [hg]; exact (below_size (by repeat (((with_reducible (exact HB.out)))))) : w.heap.size ≤ qe)); have n5_ := Aside0.mk ((by rw [hg]; exact Nat.ne_of_lt (blk_lt (g := qc) (o := .cells #[.bool a0_0, .slice A0_1 l0_1.length c0_1, .slice (some ad196) l0_2.length c0_2] 25 (0, 0)) (by exact qb.out)) : qc ≠ qe)); have n6_ := Aside0.mk ((by rw [hg]; exact Nat.ne_of_gt (blk_lt (g := qc) (o := .cells #[.bool a0_0, .slice A0_1 l0_1.length c0_1, .slice (some ad196) l0_2.length c0_2] 25 (0, 0)) (by exact qb.out)) : qe ≠ qc)); clear qb; clear HB; have qb := n0_; have HB := n1_; have qg := n2_; have GW197 := n3_; have ql := n4_; have qi := n5_; have qj := n6_; clear n0_ n1_ n2_ n3_ n4_ n5_ n6_; clear hb hbox hg; have hnb75 := qj.out; have hnc75 := qi.out; have hcz76_0 : w74.cell? ⟨qe, 0, none⟩ = some (.string (⟨#[]⟩ : ByteArray)) := (blk_cell qg.out 0).trans rfl; have hcz76_1 : w74.cell? ⟨qe, 1, none⟩ = some (.int .i64 0) := (blk_cell qg.out 1).trans rfl; have hfz76_0 := blk_frozen qg.out 0; have hfz76_1 := blk_frozen qg.out 1; have hcz77_0 : w74.cell? ⟨qc, 0, none⟩ = some (.bool a0_0) := (blk_cell qb.out 0).trans rfl; have hcz77_1 : w74.cell? ⟨qc, 1, none⟩ = some (.slice A0_1 l0_1.length c0_1) := (blk_cell qb.out 1).trans rfl; have hcz77_2 : w74.cell? ⟨qc, 2, none⟩ = some (.slice (some ad196) l0_2.length c0_2) := (blk_cell qb.out 2).trans rfl; have hfz77_0 := blk_frozen qb.out 0; have hfz77_1 := blk_frozen qb.out 1; have hfz77_2 := blk_frozen qb.out 2; have p198 : 0 ≤ ((ji69) : Int) := of_decide_eq_true (by ((with_reducible assumption))); have q198 : (ji69) < (l0_2.length : Int) := of_decide_eq_true (by ((with_reducible assumption))); obtain ⟨ad198, e198, hx198_0, hx198_1⟩ := at_T46 HR0_2.out (ji69) p198 q198; obtain rfl : ad196 = ad198 := (by injection e198); have hn198_0 : ad196.block ≠ qe := Nat.ne_of_lt (Nat.lt_of_lt_of_le (by have := World.block_lt_of_cell? _ _ hx198_0; (rwa [add_block] at this)) GW197.out); have hn198_1 : ad196.block ≠ qe := Nat.ne_of_lt (Nat.lt_of_lt_of_le (by have := World.block_lt_of_cell? _ _ hx198_0; (rwa [add_block] at this)) GW197.out); replace hx198_0 := (HB.out.cell (World.block_lt_of_cell? w _ hx198_0)).trans hx198_0; replace hx198_1 := (HB.out.cell (World.block_lt_of_cell? w _ hx198_1)).trans hx198_1; replace hx198_0 := (cell_far (p := ⟨qe, 0, none⟩) (by ((rw [add_block]; exact hn198_0))) (.string ((rd_T46 l0_2 x5_3).f0))).trans hx198_0; replace hx198_1 := (cell_far (p := ⟨qe, 0, none⟩) (by ((rw [add_block]; exact hn198_0))) (.string ((rd_T46 l0_2 x5_3).f0))).trans hx198_1; replace hx198_0 := (cell_far (p := ⟨qe, 1, none⟩) (by ((rw [add_block]; exact hn198_1))) (.int .i64 ((rd_T46 l0_2 x5_3).f1))).trans hx198_0; replace hx198_1 := (cell_far (p := ⟨qe, 1, none⟩) (by ((rw [add_block]; exact hn198_1))) (.int .i64 ((rd_T46 l0_2 x5_3).f1))).trans hx198_1; (try have qq := fun (n_ : Nat) => (show ((((w74.drewN n_).setCell ⟨qe, 0, none⟩ (.string ((rd_T46 l0_2 x5_3).f0))).setCell ⟨qe, 1, none⟩ (.int .i64 ((rd_T46 l0_2 x5_3).f1)))).cell? _ = some _ from hx198_0)); (try have qo := fun (n_ : Nat) => (show ((((w74.drewN n_).setCell ⟨qe, 0, none⟩ (.string ((rd_T46 l0_2 x5_3).f0))).setCell ⟨qe, 1, none⟩ (.int .i64 ((rd_T46 l0_2 x5_3).f1)))).cell? _ = some _ from hx198_1)); clear hn198_0; clear hn198_1; replace p198 := eq_true p198; replace q198 := eq_true q198))
                  repeat (go_quiet (fail); try go_wp2_with (fail))
                  go_roundg k3
                  case measure => have := HJ1.out; have := HK2.out; have := HK3.out; omega
                  case rel => exact ⟨(wrap64 (x5_3 + 1)), (by (rfl)), H', ⟨by have := HJ1.out; have := HK2.out; have := HK3.out; omega⟩, ⟨by (with_reducible repeat ((refine blk_drewN ?_ _))); refine blk_far ?_ qi.out _; refine blk_far ?_ qi.out _; exact qb.out⟩, ⟨by repeat (((with_reducible first | exact HB.out | apply pw_below_drewN | refine below_set ?_ ql.out)))⟩⟩
                 ·rw [if_neg c72] at H
                  have c72b0 : (Op.bytesLess (((rd_T46 l0_2 (ji69)).f0).toList) (((rd_T46 l0_2 x5_3).f0).toList)) = false := by simpa using c72
                  clear c72
                  obtain rfl := Option.some.inj H
                  have hcz78_0 : wr.cell? ⟨qc, 0, none⟩ = some (.bool a0_0) := (blk_cell qb.out 0).trans rfl
                  have hcz78_1 : wr.cell? ⟨qc, 1, none⟩ = some (.slice A0_1 l0_1.length c0_1) := (blk_cell qb.out 1).trans rfl
                  have hcz78_2 : wr.cell? ⟨qc, 2, none⟩ = some (.slice A0_2 l0_2.length c0_2) := (blk_cell qb.out 2).trans rfl
                  have hfz78_0 := blk_frozen qb.out 0
                  have hfz78_1 := blk_frozen qb.out 1
                  have hfz78_2 := blk_frozen qb.out 2
                  have p196 : 0 ≤ (x5_3 : Int) := of_decide_eq_true (by ((with_reducible assumption)))
                  have q196 : x5_3 < (l0_2.length : Int) := of_decide_eq_true (by ((with_reducible assumption)))
                  obtain ⟨ad196, e196, hx196_0, hx196_1⟩ := at_T46 HR0_2.out x5_3 p196 q196
                  cases e196
                  replace hx196_0 := (HB.out.cell (World.block_lt_of_cell? w _ hx196_0)).trans hx196_0
                  replace hx196_1 := (HB.out.cell (World.block_lt_of_cell? w _ hx196_1)).trans hx196_1
                  replace p196 := eq_true p196
                  replace q196 := eq_true q196
                  go_wp2_with (first | ((with_reducible refine gate_dst (N := 6) rfl ?_); (try (refine gate_guard (by rfl) ?_; dsimp only)); refine box_event ?hg (N := 6) ?hd (cs := #[.string (⟨#[]⟩ : ByteArray), .int .i64 0]) (t := 46) ?hr ?_; (case hd => rfl); (case hg => rfl); (case hr => ((go_simp; done))); intro qe hg w79 hbox hb; have n0_ := Aside0.mk (blk_below (g := qc) (o := .cells #[.bool a0_0, .slice A0_1 l0_1.length c0_1, .slice (some ad196) l0_2.length c0_2] 25 (0, 0)) (by exact qb.out) hb); have n1_ := Aside0.mk (below_step (by repeat (((with_reducible (exact HB.out))))) hb); have n2_ := Aside0.mk (hbox); have n3_ := Aside0.mk ((by rw [hg]; exact (below_size (by repeat (((with_reducible (exact HB.out)))))) : w.heap.size ≤ qe)); have n4_ := Aside0.mk ((by rw [hg]; exact (below_size (by repeat (((with_reducible (exact HB.out)))))) : w.heap.size ≤ qe)); have n5_ := Aside0.mk ((by rw [hg]; exact Nat.ne_of_lt (blk_lt (g := qc) (o := .cells #[.bool a0_0, .slice A0_1 l0_1.length c0_1, .slice (some ad196) l0_2.length c0_2] 25 (0, 0)) (by exact qb.out)) : qc ≠ qe)); have n6_ := Aside0.mk ((by rw [hg]; exact Nat.ne_of_gt (blk_lt (g := qc) (o := .cells #[.bool a0_0, .slice A0_1 l0_1.length c0_1, .slice (some ad196) l0_2.length c0_2] 25 (0, 0)) (by exact qb.out)) : qe ≠ qc)); clear qb; clear HB; have qb := n0_; have HB := n1_; have qg := n2_; have GW197 := n3_; have ql := n4_; have qi := n5_; have qj := n6_; clear n0_ n1_ n2_ n3_ n4_ n5_ n6_; clear hb hbox hg; have hnb80 := qj.out; have hnc80 := qi.out; have hcz81_0 : w79.cell? ⟨qe, 0, none⟩ = some (.string (⟨#[]⟩ : ByteArray)) := (blk_cell qg.out 0).trans rfl; have hcz81_1 : w79.cell? ⟨qe, 1, none⟩ = some (.int .i64 0) := (blk_cell qg.out 1).trans rfl; have hfz81_0 := blk_frozen qg.out 0; have hfz81_1 := blk_frozen qg.out 1; have hcz82_0 : w79.cell? ⟨qc, 0, none⟩ = some (.bool a0_0) := (blk_cell qb.out 0).trans rfl; have hcz82_1 : w79.cell? ⟨qc, 1, none⟩ = some (.slice A0_1 l0_1.length c0_1) := (blk_cell qb.out 1).trans rfl; have hcz82_2 : w79.cell? ⟨qc, 2, none⟩ = some (.slice (some ad196) l0_2.length c0_2) := (blk_cell qb.out 2).trans rfl; have hfz82_0 := blk_frozen qb.out 0; have hfz82_1 := blk_frozen qb.out 1; have hfz82_2 := blk_frozen qb.out 2; have p198 : 0 ≤ ((ji69) : Int) := of_decide_eq_true (by ((with_reducible assumption))); have q198 : (ji69) < (l0_2.length : Int) := of_decide_eq_true (by ((with_reducible assumption))); obtain ⟨ad198, e198, hx198_0, hx198_1⟩ := at_T46 HR0_2.out (ji69) p198 q198; obtain rfl : ad196 = ad198 := (by injection e198); have hn198_0 : ad196.block ≠ qe := Nat.ne_of_lt (Nat.lt_of_lt_of_le (by have := World.block_lt_of_cell? _ _ hx198_0; (rwa [add_block] at this)) GW197.out); have hn198_1 : ad196.block ≠ qe := Nat.ne_of_lt (Nat.lt_of_lt_of_le (by have := World.block_lt_of_cell? _ _ hx198_0; (rwa [add_block] at this)) GW197.out); replace hx198_0 := (HB.out.cell (World.block_lt_of_cell? w _ hx198_0)).trans hx198_0; replace hx198_1 := (HB.out.cell (World.block_lt_of_cell? w _ hx198_1)).trans hx198_1; replace hx198_0 := (cell_far (p := ⟨qe, 0, none⟩) (by ((rw [add_block]; exact hn198_0))) (.string ((rd_T46 l0_2 x5_3).f0))).trans hx198_0; replace hx198_1 := (cell_far (p := ⟨qe, 0, none⟩) (by ((rw [add_block]; exact hn198_0))) (.string ((rd_T46 l0_2 x5_3).f0))).trans hx198_1; replace hx198_0 := (cell_far (p := ⟨qe, 1, none⟩) (by ((rw [add_block]; exact hn198_1))) (.int .i64 ((rd_T46 l0_2 x5_3).f1))).trans hx198_0; replace hx198_1 := (cell_far (p := ⟨qe, 1, none⟩) (by ((rw [add_block]; exact hn198_1))) (.int .i64 ((rd_T46 l0_2 x5_3).f1))).trans hx198_1; (try have qq := fun (n_ : Nat) => (show ((((w79.drewN n_).setCell ⟨qe, 0, none⟩ (.string ((rd_T46 l0_2 x5_3).f0))).setCell ⟨qe, 1, none⟩ (.int .i64 ((rd_T46 l0_2 x5_3).f1)))).cell? _ = some _ from hx198_0)); (try have qo := fun (n_ : Nat) => (show ((((w79.drewN n_).setCell ⟨qe, 0, none⟩ (.string ((rd_T46 l0_2 x5_3).f0))).setCell ⟨qe, 1, none⟩ (.int .i64 ((rd_T46 l0_2 x5_3).f1)))).cell? _ = some _ from hx198_1)); clear hn198_0; clear hn198_1; replace p198 := eq_true p198; replace q198 := eq_true q198))
                  repeat (go_quiet (fail); try go_wp2_with (fail))
                  go_ret
                  exact ⟨by (rfl), by repeat (((with_reducible first | exact HB.out | apply pw_below_drewN | refine below_set ?_ ql.out)))⟩
                ·rw [if_neg c71] at H
                 exact absurd H (by simp)
               ·rw [if_neg c70] at H
                exact absurd H (by simp)
              ·rw [if_neg c68] at H
               have c68b0 : decide (0 < x5_3) = false := decide_eq_false c68
               clear c68
               have H' := Aside0.mk H
               clear H
               have hcz83_0 : wr.cell? ⟨qc, 0, none⟩ = some (.bool a0_0) := (blk_cell qb.out 0).trans rfl
               have hcz83_1 : wr.cell? ⟨qc, 1, none⟩ = some (.slice A0_1 l0_1.length c0_1) := (blk_cell qb.out 1).trans rfl
               have hcz83_2 : wr.cell? ⟨qc, 2, none⟩ = some (.slice A0_2 l0_2.length c0_2) := (blk_cell qb.out 2).trans rfl
               have hfz83_0 := blk_frozen qb.out 0
               have hfz83_1 := blk_frozen qb.out 1
               have hfz83_2 := blk_frozen qb.out 2
               have p196 : 0 ≤ (x5_3 : Int) := of_decide_eq_true (by ((with_reducible assumption)))
               have q196 : x5_3 < (l0_2.length : Int) := of_decide_eq_true (by ((with_reducible assumption)))
               obtain ⟨ad196, e196, hx196_0, hx196_1⟩ := at_T46 HR0_2.out x5_3 p196 q196
               cases e196
               replace hx196_0 := (HB.out.cell (World.block_lt_of_cell? w _ hx196_0)).trans hx196_0
               replace hx196_1 := (HB.out.cell (World.block_lt_of_cell? w _ hx196_1)).trans hx196_1
               replace p196 := eq_true p196
               replace q196 := eq_true q196
               go_wp2_with (first | ((with_reducible refine gate_dst (N := 6) rfl ?_); (try (refine gate_guard (by rfl) ?_; dsimp only)); refine box_event ?hg (N := 6) ?hd (cs := #[.string (⟨#[]⟩ : ByteArray), .int .i64 0]) (t := 46) ?hr ?_; (case hd => rfl); (case hg => rfl); (case hr => ((go_simp; done))); intro qe hg w84 hbox hb; have n0_ := Aside0.mk (blk_below (g := qc) (o := .cells #[.bool a0_0, .slice A0_1 l0_1.length c0_1, .slice (some ad196) l0_2.length c0_2] 25 (0, 0)) (by exact qb.out) hb); have n1_ := Aside0.mk (below_step (by repeat (((with_reducible (exact HB.out))))) hb); have n2_ := Aside0.mk (hbox); have n3_ := Aside0.mk ((by rw [hg]; exact (below_size (by repeat (((with_reducible (exact HB.out)))))) : w.heap.size ≤ qe)); have n4_ := Aside0.mk ((by rw [hg]; exact (below_size (by repeat (((with_reducible (exact HB.out)))))) : w.heap.size ≤ qe)); have n5_ := Aside0.mk ((by rw [hg]; exact Nat.ne_of_lt (blk_lt (g := qc) (o := .cells #[.bool a0_0, .slice A0_1 l0_1.length c0_1, .slice (some ad196) l0_2.length c0_2] 25 (0, 0)) (by exact qb.out)) : qc ≠ qe)); have n6_ := Aside0.mk ((by rw [hg]; exact Nat.ne_of_gt (blk_lt (g := qc) (o := .cells #[.bool a0_0, .slice A0_1 l0_1.length c0_1, .slice (some ad196) l0_2.length c0_2] 25 (0, 0)) (by exact qb.out)) : qe ≠ qc)); clear qb; clear HB; have qb := n0_; have HB := n1_; have qg := n2_; have GW197 := n3_; have ql := n4_; have qi := n5_; have qj := n6_; clear n0_ n1_ n2_ n3_ n4_ n5_ n6_; clear hb hbox hg; have hnb85 := qj.out; have hnc85 := qi.out; have hcz86_0 : w84.cell? ⟨qe, 0, none⟩ = some (.string (⟨#[]⟩ : ByteArray)) := (blk_cell qg.out 0).trans rfl; have hcz86_1 : w84.cell? ⟨qe, 1, none⟩ = some (.int .i64 0) := (blk_cell qg.out 1).trans rfl; have hfz86_0 := blk_frozen qg.out 0; have hfz86_1 := blk_frozen qg.out 1))
               repeat (go_quiet (fail); try go_wp2_with (fail))
               go_roundg k3
               case measure => have := HJ1.out; have := HK2.out; have := HK3.out; omega
               case rel => exact ⟨(wrap64 (x5_3 + 1)), (by (rfl)), H', ⟨by have := HJ1.out; have := HK2.out; have := HK3.out; omega⟩, ⟨by (with_reducible repeat ((refine blk_drewN ?_ _))); refine blk_far ?_ qi.out _; refine blk_far ?_ qi.out _; exact qb.out⟩, ⟨by repeat (((with_reducible first | exact HB.out | apply pw_below_drewN | refine below_set ?_ ql.out)))⟩⟩
          ·rw [if_neg c52] at H
           exact absurd H (by simp)
         ·rw [if_neg c51] at H
          have c51b0 : decide (x5_3 < (l0_2.length : Int)) = false := decide_eq_false c51
          clear c51
          obtain rfl := Option.some.inj H
          have hcz87_0 : wr.cell? ⟨qc, 0, none⟩ = some (.bool a0_0) := (blk_cell qb.out 0).trans rfl
          have hcz87_1 : wr.cell? ⟨qc, 1, none⟩ = some (.slice A0_1 l0_1.length c0_1) := (blk_cell qb.out 1).trans rfl
          have hcz87_2 : wr.cell? ⟨qc, 2, none⟩ = some (.slice A0_2 l0_2.length c0_2) := (blk_cell qb.out 2).trans rfl
          have hfz87_0 := blk_frozen qb.out 0
          have hfz87_1 := blk_frozen qb.out 1
          have hfz87_2 := blk_frozen qb.out 2
          go_wp2
          repeat (go_quiet (fail); try go_wp2)
          go_ret
          exact ⟨by (rfl), by repeat (((with_reducible (exact HB.out))))⟩

end Go.Proofs.Ytdkbikaheagbfaa.PT
