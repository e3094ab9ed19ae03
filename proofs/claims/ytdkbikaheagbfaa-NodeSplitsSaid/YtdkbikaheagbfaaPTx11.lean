-- WRITTEN BY a program of this session (pp.sh)
import Derived.Test.YtdkbikaheagbfaaPTx0
namespace Go.Proofs.Ytdkbikaheagbfaa.PT
open Go.RowKit Go.Proofs.YtdkbikaheagbfaaW.PrintWords Go.Proofs.YtdkbikaheagbfaaW.PrintLast Go.Proofs.YtdkbikaheagbfaaW.PrintMore Go.Proofs.Ytdkbikaheagbfaa.Plain
attribute [local go_sem] max2_int min2_int max_two min_two max_three min_three max_four min_four binOp_leq_s binOp_gtr_s binOp_geq_s lit_byte   -- for this text's walks alone
set_option linter.unusedVariables false
set_option linter.unusedSimpArgs false

/-! ### coppiceref06_Great: function 10 -/
mutual
def coppiceref06_Great.j0 : Nat → Bool → Bool → List (S44) → List (S46) → Option (Bool)
 | 0, _, _, _, _ => none
 | k + 1, x14, x130000, x130001, x130002 => if x14 = true then (some true) else (coppiceref06_Great.l0 k 0 x130000 x130001 x130002)
def coppiceref06_Great.l0 : Nat → Int → Bool → List (S44) → List (S46) → Option (Bool)
 | 0, _, _, _, _ => none
 | k + 1, x3, x130000, x130001, x130002 => if x3 < (x130001.length : Int) then (if 0 ≤ x3 then (if (((rd_T44 x130001 x3).f0).size : Int) > 1000 then (some true) else (if (((rd_T44 x130001 x3).f1).size : Int) > 1000 then (some true) else (coppiceref06_Great.l0 k (wrap64 (x3 + 1)) x130000 x130001 x130002))) else (none)) else (coppiceref06_Great.l1 k 0 x130000 x130001 x130002)
def coppiceref06_Great.l1 : Nat → Int → Bool → List (S44) → List (S46) → Option (Bool)
 | 0, _, _, _, _ => none
 | k + 1, x4, x130000, x130001, x130002 => if x4 < (x130002.length : Int) then (if 0 ≤ x4 then (if (((rd_T46 x130002 x4).f0).size : Int) > 1000 then (some true) else (coppiceref06_Great.l1 k (wrap64 (x4 + 1)) x130000 x130001 x130002)) else (none)) else (some false)
end
def coppiceref06_Great.f (k : Nat) (a0_0 : Bool) (l0_1 : List (S44)) (l0_2 : List (S46)) : Option (Bool) := if (l0_1.length : Int) > 300 then (coppiceref06_Great.j0 k true a0_0 l0_1 l0_2) else (coppiceref06_Great.j0 k (decide ((l0_2.length : Int) > 300)) a0_0 l0_1 l0_2)
theorem coppiceref06_Great.mono_l : ∀ k, (∀ y0 y1 y2 y3, LeO (coppiceref06_Great.j0 k y0 y1 y2 y3) (coppiceref06_Great.j0 (k + 1) y0 y1 y2 y3)) ∧ (∀ y0 y1 y2 y3, LeO (coppiceref06_Great.l0 k y0 y1 y2 y3) (coppiceref06_Great.l0 (k + 1) y0 y1 y2 y3)) ∧ (∀ y0 y1 y2 y3, LeO (coppiceref06_Great.l1 k y0 y1 y2 y3) (coppiceref06_Great.l1 (k + 1) y0 y1 y2 y3))
 | 0 => ⟨fun _ _ _ _ r h => by simp [coppiceref06_Great.j0] at h, fun _ _ _ _ r h => by simp [coppiceref06_Great.l0] at h, fun _ _ _ _ r h => by simp [coppiceref06_Great.l1] at h⟩
 | k + 1 => by
  obtain ⟨ih0, ih1, ih2⟩ := coppiceref06_Great.mono_l k
  refine ⟨?_, ?_, ?_⟩
  ·intro y0 y1 y2 y3
   unfold coppiceref06_Great.j0
   repeat' first
   | (with_reducible exact ih0 _ _ _ _)
   | (with_reducible exact ih1 _ _ _ _)
   | (with_reducible exact ih2 _ _ _ _)
   | (with_reducible exact LeO.refl _)
   | (with_reducible exact LeO.none _)
   | (with_reducible refine LeO.ite ?_ ?_)
   | (with_reducible refine LeO.bind ?_ (fun _ => ?_))
   | exact ih0 _ _ _ _
   | exact ih1 _ _ _ _
   | exact ih2 _ _ _ _
   | exact LeO.none _
   | refine LeO.ite ?_ ?_
   | refine LeO.bind ?_ (fun _ => ?_)
  ·intro y0 y1 y2 y3
   unfold coppiceref06_Great.l0
   repeat' first
   | (with_reducible exact ih0 _ _ _ _)
   | (with_reducible exact ih1 _ _ _ _)
   | (with_reducible exact ih2 _ _ _ _)
   | (with_reducible exact LeO.refl _)
   | (with_reducible exact LeO.none _)
   | (with_reducible refine LeO.ite ?_ ?_)
   | (with_reducible refine LeO.bind ?_ (fun _ => ?_))
   | exact ih0 _ _ _ _
   | exact ih1 _ _ _ _
   | exact ih2 _ _ _ _
   | exact LeO.none _
   | refine LeO.ite ?_ ?_
   | refine LeO.bind ?_ (fun _ => ?_)
  ·intro y0 y1 y2 y3
   unfold coppiceref06_Great.l1
   repeat' first
   | (with_reducible exact ih0 _ _ _ _)
   | (with_reducible exact ih1 _ _ _ _)
   | (with_reducible exact ih2 _ _ _ _)
   | (with_reducible exact LeO.refl _)
   | (with_reducible exact LeO.none _)
   | (with_reducible refine LeO.ite ?_ ?_)
   | (with_reducible refine LeO.bind ?_ (fun _ => ?_))
   | exact ih0 _ _ _ _
   | exact ih1 _ _ _ _
   | exact ih2 _ _ _ _
   | exact LeO.none _
   | refine LeO.ite ?_ ?_
   | refine LeO.bind ?_ (fun _ => ?_)
theorem coppiceref06_Great.mono : ∀ a0 a1 a2 k, LeO (coppiceref06_Great.f k a0 a1 a2) (coppiceref06_Great.f (k + 1) a0 a1 a2) := by
 intro a0 a1 a2 k
 obtain ⟨ih0, ih1, ih2⟩ := coppiceref06_Great.mono_l k
 unfold coppiceref06_Great.f
 repeat' first
   | (with_reducible exact ih0 _ _ _ _)
   | (with_reducible exact ih1 _ _ _ _)
   | (with_reducible exact ih2 _ _ _ _)
   | (with_reducible exact LeO.refl _)
   | (with_reducible exact LeO.none _)
   | (with_reducible refine LeO.ite ?_ ?_)
   | (with_reducible refine LeO.bind ?_ (fun _ => ?_))
   | exact ih0 _ _ _ _
   | exact ih1 _ _ _ _
   | exact ih2 _ _ _ _
   | exact LeO.none _
   | refine LeO.ite ?_ ?_
   | refine LeO.bind ?_ (fun _ => ?_)
set_option maxHeartbeats 8000000 in
set_option maxRecDepth 100000 in
theorem coppiceref06_Great.calls (k : Nat) (a0_0 : Bool) (A0_1 : Option Addr) (c0_1 : Nat) (l0_1 : List (S44)) (A0_2 : Option Addr) (c0_2 : Nat) (l0_2 : List (S46)) (r : Bool) (w : World) (hr0_1 : Kd.C k44 w A0_1 l0_1.length l0_1) (hc0_1 : l0_1.length ≤ c0_1) (hr0_2 : Kd.C k46 w A0_2 l0_2.length l0_2) (hc0_2 : l0_2.length ≤ c0_2) (h : coppiceref06_Great.f k a0_0 l0_1 l0_2 = some r) :
  Calls Try.prog 10 #[.agg #[.bool a0_0, .slice A0_1 l0_1.length c0_1, .slice A0_2 l0_2.length c0_2]] w fun e w' => e = .returned (.bool r) ∧ Below w.heap.size w w' := by
 have hu25 := Try.underlying25
 have HR0_1 := Aside0.mk hr0_1
 have HC0_1 := Aside0.mk hc0_1
 clear hr0_1 hc0_1
 have HR0_2 := Aside0.mk hr0_2
 have HC0_2 := Aside0.mk hc0_2
 clear hr0_2 hc0_2
 have HB := Aside0.mk (Below.refl w.heap.size w)
 have H : (if (l0_1.length : Int) > 300 then (coppiceref06_Great.j0 k true a0_0 l0_1 l0_2) else (coppiceref06_Great.j0 k (decide ((l0_2.length : Int) > 300)) a0_0 l0_1 l0_2)) = some r := h
 clear h
 have HC2 := Aside0.mk H
 clear H
 go_enter Try.func10, Try.ntmps10
 go_upto_region 1 with (first | ((with_reducible refine gate_dst (N := 1) rfl ?_); (try (refine gate_guard (by rfl) ?_; dsimp only)); refine box_event ?hg (N := 1) ?hd (cs := #[.bool a0_0, .slice A0_1 l0_1.length c0_1, .slice A0_2 l0_2.length c0_2]) (t := 25) ?hr ?_; (case hd => rfl); (case hg => rfl); (case hr => first | (go_simp; done) | (go_simp; rfl)); intro qc hg w3 hbox hb; have n0_ := Aside0.mk (below_step (by repeat (first | (with_reducible first | exact HB.out | apply below_alloc | apply pw_below_drewN | apply below_drew1) | exact HB.out)) hb); have n1_ := Aside0.mk (hbox); have n2_ := Aside0.mk ((by rw [hg]; exact (below_size (by repeat (first | (with_reducible first | exact HB.out | apply below_alloc | apply pw_below_drewN | apply below_drew1) | exact HB.out))) : w.heap.size ≤ qc)); have n3_ := Aside0.mk ((by rw [hg]; exact (below_size (by repeat (first | (with_reducible first | exact HB.out | apply below_alloc | apply pw_below_drewN | apply below_drew1) | exact HB.out))) : w.heap.size ≤ qc)); clear HB; have HB := n0_; have qb := n1_; have GW129 := n2_; have qd := n3_; clear n0_ n1_ n2_ n3_; clear hb hbox hg))
 (try simp only [Act.put, List.setIfInBounds_toArray, List.set_cons_zero, List.set_cons_succ])
 go_cut [14] (fun qf wc => ∃ (kq : Nat) (qe : Bool), qf = .bool qe ∧ Aside0 (coppiceref06_Great.j0 kq qe a0_0 l0_1 l0_2 = some r) ∧ Aside0 (kq ≤ k) ∧ Aside0 (wc.heap[qc]? = some (.cells #[.bool a0_0, (.slice A0_1 l0_1.length c0_1), (.slice A0_2 l0_2.length c0_2)] 25 (0, 0))) ∧ Aside0 (Below w.heap.size w wc))
 case first =>
  have H := HC2.out
  clear HC2
  by_cases c4 : (l0_1.length : Int) > 300
  ·rw [if_pos c4] at H
   have c4b0 : decide (300 < (l0_1.length : Int)) = true := decide_eq_true c4
   have c4b1 : decide (300 < l0_1.length) = true := decide_eq_true (by omega)
   clear c4
   (first | rw [c4b0] | (simp only [i64_w, i32_w]; rw [c4b0]) | skip)
   have H' := Aside0.mk H
   clear H
   have hcz5_0 : w3.cell? ⟨qc, 0, none⟩ = some (.bool a0_0) := (blk_cell qb.out 0).trans rfl
   have hcz5_1 : w3.cell? ⟨qc, 1, none⟩ = some (.slice A0_1 l0_1.length c0_1) := (blk_cell qb.out 1).trans rfl
   have hcz5_2 : w3.cell? ⟨qc, 2, none⟩ = some (.slice A0_2 l0_2.length c0_2) := (blk_cell qb.out 2).trans rfl
   have hfz5_0 := blk_frozen qb.out 0
   have hfz5_1 := blk_frozen qb.out 1
   have hfz5_2 := blk_frozen qb.out 2
   go_wp2
   go_meet
   case rel => exact ⟨_, (true), (by first | rfl | (simp; done) | (simp [*]; done)), H', ⟨by first | omega | exact Nat.le_refl _⟩, ⟨by (with_reducible repeat (first | refine blk_drewN ?_ _ | refine blk_drew ?_ | refine blk_alloc ?_ _)); exact qb.out⟩, ⟨by repeat (first | (with_reducible first | exact HB.out | apply below_alloc | apply pw_below_drewN | apply below_drew1 | refine below_set ?_ qd.out) | exact HB.out)⟩⟩
  ·rw [if_neg c4] at H
   have c4b0 : decide (300 < (l0_1.length : Int)) = false := decide_eq_false c4
   have c4b1 : decide (300 < l0_1.length) = false := decide_eq_false (by omega)
   clear c4
   (first | rw [c4b0] | (simp only [i64_w, i32_w]; rw [c4b0]) | skip)
   have H' := Aside0.mk H
   clear H
   have hcz6_0 : w3.cell? ⟨qc, 0, none⟩ = some (.bool a0_0) := (blk_cell qb.out 0).trans rfl
   have hcz6_1 : w3.cell? ⟨qc, 1, none⟩ = some (.slice A0_1 l0_1.length c0_1) := (blk_cell qb.out 1).trans rfl
   have hcz6_2 : w3.cell? ⟨qc, 2, none⟩ = some (.slice A0_2 l0_2.length c0_2) := (blk_cell qb.out 2).trans rfl
   have hfz6_0 := blk_frozen qb.out 0
   have hfz6_1 := blk_frozen qb.out 1
   have hfz6_2 := blk_frozen qb.out 2
   go_wp2
   go_meet
   case rel => exact ⟨_, (decide ((l0_2.length : Int) > 300)), (by first | rfl | (simp; done) | (simp [*]; done)), H', ⟨by first | omega | exact Nat.le_refl _⟩, ⟨by (with_reducible repeat (first | refine blk_drewN ?_ _ | refine blk_drew ?_ | refine blk_alloc ?_ _)); exact qb.out⟩, ⟨by repeat (first | (with_reducible first | exact HB.out | apply below_alloc | apply pw_below_drewN | apply below_drew1 | refine below_set ?_ qd.out) | exact HB.out)⟩⟩
 case rest =>
  clear HC2
  try clear c1
  try clear p2
  try clear c4
  try clear c4b0
  try clear c4b1
  try clear hcz5_0
  try clear hcz5_1
  try clear hcz5_2
  try clear hcz6_0
  try clear hcz6_1
  try clear hcz6_2
  try clear hfz5_0
  try clear hfz5_1
  try clear hfz5_2
  try clear hfz6_0
  try clear hfz6_1
  try clear hfz6_2
  obtain ⟨kq, qe, rfl, HA, HJ1, qb, HB⟩ := hcut
  cases kq with
  | zero => exact absurd HA.out (by simp [coppiceref06_Great.j0])
  | succ kj1 =>
   have H := HA.out
   clear HA
   simp only [coppiceref06_Great.j0] at H
   by_cases c7 : qe = true
   ·subst c7
    have H1 : (some true) = some r := by rw [if_pos rfl] at H; exact H
    clear H
    have H := H1
    clear H1
    obtain rfl := Option.some.inj H
    go_wp2
    go_ret
    exact ⟨by first | rfl | (simp [errW_none, errW_some] <;> rfl) | (simp [*, errW_none, errW_some] <;> rfl), by repeat (first | (with_reducible first | exact HB.out | apply below_alloc | apply pw_below_drewN | apply below_drew1 | refine below_set ?_ qd.out) | exact HB.out)⟩
   ·replace c7 := Bool.eq_false_iff.mpr c7
    subst c7
    have H1 : (coppiceref06_Great.l0 kj1 0 a0_0 l0_1 l0_2) = some r := by rw [if_neg (show ¬ (false = true) by decide)] at H; exact H
    clear H
    have H := H1
    clear H1
    have H' := Aside0.mk H
    clear H
    go_wp2
    go_loopg [3] kj1 (fun kq v3 w' => ∃ (x3_2 : Int), v3 = .int .i64 x3_2 ∧ Aside0 (coppiceref06_Great.l0 kq x3_2 a0_0 l0_1 l0_2 = some r) ∧ Aside0 (kq ≤ kj1) ∧ Aside0 (w'.heap[qc]? = some (.cells #[.bool a0_0, (.slice A0_1 l0_1.length c0_1), (.slice A0_2 l0_2.length c0_2)] 25 (0, 0))) ∧ Aside0 (Below w.heap.size w w'))
    case atStart => exact ⟨(0), (by first | rfl | (simp; done) | (simp [*]; done)), H', ⟨Nat.le_refl _⟩, ⟨by (with_reducible repeat (first | refine blk_drewN ?_ _ | refine blk_drew ?_ | refine blk_alloc ?_ _)); exact qb.out⟩, ⟨by repeat (first | (with_reducible first | exact HB.out | apply below_alloc | apply pw_below_drewN | apply below_drew1 | refine below_set ?_ qd.out) | exact HB.out)⟩⟩
    case round =>
     clear H'
     try clear c1
     try clear p2
     try clear c4
     try clear c4b0
     try clear c4b1
     try clear c7
     try clear hcz5_0
     try clear hcz5_1
     try clear hcz5_2
     try clear hcz6_0
     try clear hcz6_1
     try clear hcz6_2
     try clear hfz5_0
     try clear hfz5_1
     try clear hfz5_2
     try clear hfz6_0
     try clear hfz6_1
     try clear hfz6_2
     try clear p2
     obtain ⟨x3_2, rfl, HA, HK2, qb, HB⟩ := hrel
     cases gk with
     | zero => exact absurd HA.out (by simp [coppiceref06_Great.l0])
     | succ k2 =>
      have H := HA.out
      clear HA
      simp only [coppiceref06_Great.l0] at H
      by_cases c8 : x3_2 < (l0_1.length : Int)
      ·rw [if_pos c8] at H
       have c8b0 : decide (x3_2 < (l0_1.length : Int)) = true := decide_eq_true c8
       clear c8
       by_cases c9 : 0 ≤ x3_2
       ·rw [if_pos c9] at H
        have c9b0 : decide (0 ≤ x3_2) = true := decide_eq_true c9
        clear c9
        by_cases c10 : (((rd_T44 l0_1 x3_2).f0).size : Int) > 1000
        ·rw [if_pos c10] at H
         have c10b0 : decide (1000 < (((rd_T44 l0_1 x3_2).f0).size : Int)) = true := decide_eq_true c10
         have c10b1 : decide (1000 < ((rd_T44 l0_1 x3_2).f0).size) = true := decide_eq_true (by omega)
         clear c10
         obtain rfl := Option.some.inj H
         have hcz11_0 : wr.cell? ⟨qc, 0, none⟩ = some (.bool a0_0) := (blk_cell qb.out 0).trans rfl
         have hcz11_1 : wr.cell? ⟨qc, 1, none⟩ = some (.slice A0_1 l0_1.length c0_1) := (blk_cell qb.out 1).trans rfl
         have hcz11_2 : wr.cell? ⟨qc, 2, none⟩ = some (.slice A0_2 l0_2.length c0_2) := (blk_cell qb.out 2).trans rfl
         have hfz11_0 := blk_frozen qb.out 0
         have hfz11_1 := blk_frozen qb.out 1
         have hfz11_2 := blk_frozen qb.out 2
         have p130 : 0 ≤ (x3_2 : Int) := of_decide_eq_true (by first | (with_reducible assumption) | assumption)
         have q130 : x3_2 < (l0_1.length : Int) := of_decide_eq_true (by first | (with_reducible assumption) | assumption)
         obtain ⟨ad130, e130, hx130_0, hx130_1⟩ := at_T44 HR0_1.out x3_2 p130 q130
         cases e130
         replace hx130_0 := (HB.out.cell (World.block_lt_of_cell? w _ hx130_0)).trans hx130_0
         replace hx130_1 := (HB.out.cell (World.block_lt_of_cell? w _ hx130_1)).trans hx130_1
         replace p130 := eq_true p130
         replace q130 := eq_true q130
         go_wp2
         go_ret
         exact ⟨by first | rfl | (simp [errW_none, errW_some] <;> rfl) | (simp [*, errW_none, errW_some] <;> rfl), by repeat (first | (with_reducible first | exact HB.out | apply below_alloc | apply pw_below_drewN | apply below_drew1 | refine below_set ?_ qd.out) | exact HB.out)⟩
        ·rw [if_neg c10] at H
         have c10b0 : decide (1000 < (((rd_T44 l0_1 x3_2).f0).size : Int)) = false := decide_eq_false c10
         have c10b1 : decide (1000 < ((rd_T44 l0_1 x3_2).f0).size) = false := decide_eq_false (by omega)
         clear c10
         by_cases c12 : (((rd_T44 l0_1 x3_2).f1).size : Int) > 1000
         ·rw [if_pos c12] at H
          have c12b0 : decide (1000 < (((rd_T44 l0_1 x3_2).f1).size : Int)) = true := decide_eq_true c12
          have c12b1 : decide (1000 < ((rd_T44 l0_1 x3_2).f1).size) = true := decide_eq_true (by omega)
          clear c12
          obtain rfl := Option.some.inj H
          have hcz13_0 : wr.cell? ⟨qc, 0, none⟩ = some (.bool a0_0) := (blk_cell qb.out 0).trans rfl
          have hcz13_1 : wr.cell? ⟨qc, 1, none⟩ = some (.slice A0_1 l0_1.length c0_1) := (blk_cell qb.out 1).trans rfl
          have hcz13_2 : wr.cell? ⟨qc, 2, none⟩ = some (.slice A0_2 l0_2.length c0_2) := (blk_cell qb.out 2).trans rfl
          have hfz13_0 := blk_frozen qb.out 0
          have hfz13_1 := blk_frozen qb.out 1
          have hfz13_2 := blk_frozen qb.out 2
          have p130 : 0 ≤ (x3_2 : Int) := of_decide_eq_true (by first | (with_reducible assumption) | assumption)
          have q130 : x3_2 < (l0_1.length : Int) := of_decide_eq_true (by first | (with_reducible assumption) | assumption)
          obtain ⟨ad130, e130, hx130_0, hx130_1⟩ := at_T44 HR0_1.out x3_2 p130 q130
          cases e130
          replace hx130_0 := (HB.out.cell (World.block_lt_of_cell? w _ hx130_0)).trans hx130_0
          replace hx130_1 := (HB.out.cell (World.block_lt_of_cell? w _ hx130_1)).trans hx130_1
          replace p130 := eq_true p130
          replace q130 := eq_true q130
          have p131 : 0 ≤ (x3_2 : Int) := of_decide_eq_true (by first | (with_reducible assumption) | assumption)
          have q131 : x3_2 < (l0_1.length : Int) := of_decide_eq_true (by first | (with_reducible assumption) | assumption)
          obtain ⟨ad131, e131, hx131_0, hx131_1⟩ := at_T44 HR0_1.out x3_2 p131 q131
          obtain rfl : ad130 = ad131 := (by injection e131)
          replace hx131_0 := (HB.out.cell (World.block_lt_of_cell? w _ hx131_0)).trans hx131_0
          replace hx131_1 := (HB.out.cell (World.block_lt_of_cell? w _ hx131_1)).trans hx131_1
          replace p131 := eq_true p131
          replace q131 := eq_true q131
          go_wp2
          go_ret
          exact ⟨by first | rfl | (simp [errW_none, errW_some] <;> rfl) | (simp [*, errW_none, errW_some] <;> rfl), by repeat (first | (with_reducible first | exact HB.out | apply below_alloc | apply pw_below_drewN | apply below_drew1 | refine below_set ?_ qd.out) | exact HB.out)⟩
         ·rw [if_neg c12] at H
          have c12b0 : decide (1000 < (((rd_T44 l0_1 x3_2).f1).size : Int)) = false := decide_eq_false c12
          have c12b1 : decide (1000 < ((rd_T44 l0_1 x3_2).f1).size) = false := decide_eq_false (by omega)
          clear c12
          have H' := Aside0.mk H
          clear H
          have hcz14_0 : wr.cell? ⟨qc, 0, none⟩ = some (.bool a0_0) := (blk_cell qb.out 0).trans rfl
          have hcz14_1 : wr.cell? ⟨qc, 1, none⟩ = some (.slice A0_1 l0_1.length c0_1) := (blk_cell qb.out 1).trans rfl
          have hcz14_2 : wr.cell? ⟨qc, 2, none⟩ = some (.slice A0_2 l0_2.length c0_2) := (blk_cell qb.out 2).trans rfl
          have hfz14_0 := blk_frozen qb.out 0
          have hfz14_1 := blk_frozen qb.out 1
          have hfz14_2 := blk_frozen qb.out 2
          have p130 : 0 ≤ (x3_2 : Int) := of_decide_eq_true (by first | (with_reducible assumption) | assumption)
          have q130 : x3_2 < (l0_1.length : Int) := of_decide_eq_true (by first | (with_reducible assumption) | assumption)
          obtain ⟨ad130, e130, hx130_0, hx130_1⟩ := at_T44 HR0_1.out x3_2 p130 q130
          cases e130
          replace hx130_0 := (HB.out.cell (World.block_lt_of_cell? w _ hx130_0)).trans hx130_0
          replace hx130_1 := (HB.out.cell (World.block_lt_of_cell? w _ hx130_1)).trans hx130_1
          replace p130 := eq_true p130
          replace q130 := eq_true q130
          have p131 : 0 ≤ (x3_2 : Int) := of_decide_eq_true (by first | (with_reducible assumption) | assumption)
          have q131 : x3_2 < (l0_1.length : Int) := of_decide_eq_true (by first | (with_reducible assumption) | assumption)
          obtain ⟨ad131, e131, hx131_0, hx131_1⟩ := at_T44 HR0_1.out x3_2 p131 q131
          obtain rfl : ad130 = ad131 := (by injection e131)
          replace hx131_0 := (HB.out.cell (World.block_lt_of_cell? w _ hx131_0)).trans hx131_0
          replace hx131_1 := (HB.out.cell (World.block_lt_of_cell? w _ hx131_1)).trans hx131_1
          replace p131 := eq_true p131
          replace q131 := eq_true q131
          go_wp2
          go_roundg k2
          case measure => have := HJ1.out; have := HK2.out; omega
          case rel => exact ⟨(wrap64 (x3_2 + 1)), (by first | rfl | (simp; done) | (simp [*]; done)), H', ⟨by have := HJ1.out; have := HK2.out; omega⟩, ⟨by (with_reducible repeat (first | refine blk_drewN ?_ _ | refine blk_drew ?_ | refine blk_alloc ?_ _)); exact qb.out⟩, ⟨by repeat (first | (with_reducible first | exact HB.out | apply below_alloc | apply pw_below_drewN | apply below_drew1 | refine below_set ?_ qd.out) | exact HB.out)⟩⟩
       ·rw [if_neg c9] at H
        exact absurd H (by simp)
      ·rw [if_neg c8] at H
       have c8b0 : decide (x3_2 < (l0_1.length : Int)) = false := decide_eq_false c8
       clear c8
       have H' := Aside0.mk H
       clear H
       have hcz15_0 : wr.cell? ⟨qc, 0, none⟩ = some (.bool a0_0) := (blk_cell qb.out 0).trans rfl
       have hcz15_1 : wr.cell? ⟨qc, 1, none⟩ = some (.slice A0_1 l0_1.length c0_1) := (blk_cell qb.out 1).trans rfl
       have hcz15_2 : wr.cell? ⟨qc, 2, none⟩ = some (.slice A0_2 l0_2.length c0_2) := (blk_cell qb.out 2).trans rfl
       have hfz15_0 := blk_frozen qb.out 0
       have hfz15_1 := blk_frozen qb.out 1
       have hfz15_2 := blk_frozen qb.out 2
       go_wp2
       go_loopg [4] k2 (fun kq v4 w' => ∃ (x4_3 : Int), v4 = .int .i64 x4_3 ∧ Aside0 (coppiceref06_Great.l1 kq x4_3 a0_0 l0_1 l0_2 = some r) ∧ Aside0 (kq ≤ k2) ∧ Aside0 (w'.heap[qc]? = some (.cells #[.bool a0_0, (.slice A0_1 l0_1.length c0_1), (.slice A0_2 l0_2.length c0_2)] 25 (0, 0))) ∧ Aside0 (Below w.heap.size w w'))
       case atStart => exact ⟨(0), (by first | rfl | (simp; done) | (simp [*]; done)), H', ⟨Nat.le_refl _⟩, ⟨by (with_reducible repeat (first | refine blk_drewN ?_ _ | refine blk_drew ?_ | refine blk_alloc ?_ _)); exact qb.out⟩, ⟨by repeat (first | (with_reducible first | exact HB.out | apply below_alloc | apply pw_below_drewN | apply below_drew1 | refine below_set ?_ qd.out) | exact HB.out)⟩⟩
       case round =>
        clear H'
        try clear c1
        try clear p1
        try clear q1
        try clear hx1
        try clear p2
        try clear c4
        try clear c4b0
        try clear c4b1
        try clear p6
        try clear c7
        try clear c8
        try clear c8b0
        try clear c9
        try clear c9b0
        try clear c10
        try clear c10b0
        try clear c10b1
        try clear c12
        try clear c12b0
        try clear c12b1
        try clear p13
        try clear q13
        try clear hx13
        try clear hcz11_0
        try clear hcz11_1
        try clear hcz11_2
        try clear hcz13_0
        try clear hcz13_1
        try clear hcz13_2
        try clear hcz14_0
        try clear hcz14_1
        try clear hcz14_2
        try clear hcz15_0
        try clear hcz15_1
        try clear hcz15_2
        try clear hcz5_0
        try clear hcz5_1
        try clear hcz5_2
        try clear hcz6_0
        try clear hcz6_1
        try clear hcz6_2
        try clear hfz11_0
        try clear hfz11_1
        try clear hfz11_2
        try clear hfz13_0
        try clear hfz13_1
        try clear hfz13_2
        try clear hfz14_0
        try clear hfz14_1
        try clear hfz14_2
        try clear hfz15_0
        try clear hfz15_1
        try clear hfz15_2
        try clear hfz5_0
        try clear hfz5_1
        try clear hfz5_2
        try clear hfz6_0
        try clear hfz6_1
        try clear hfz6_2
        try clear hx130_0
        try clear hx130_1
        try clear hx131_0
        try clear hx131_1
        try clear p130
        try clear p131
        try clear p2
        try clear q130
        try clear q131
        obtain ⟨x4_3, rfl, HA, HK3, qb, HB⟩ := hrel
        cases gk with
        | zero => exact absurd HA.out (by simp [coppiceref06_Great.l1])
        | succ k3 =>
         have H := HA.out
         clear HA
         simp only [coppiceref06_Great.l1] at H
         by_cases c16 : x4_3 < (l0_2.length : Int)
         ·rw [if_pos c16] at H
          have c16b0 : decide (x4_3 < (l0_2.length : Int)) = true := decide_eq_true c16
          clear c16
          by_cases c17 : 0 ≤ x4_3
          ·rw [if_pos c17] at H
           have c17b0 : decide (0 ≤ x4_3) = true := decide_eq_true c17
           clear c17
           by_cases c18 : (((rd_T46 l0_2 x4_3).f0).size : Int) > 1000
           ·rw [if_pos c18] at H
            have c18b0 : decide (1000 < (((rd_T46 l0_2 x4_3).f0).size : Int)) = true := decide_eq_true c18
            have c18b1 : decide (1000 < ((rd_T46 l0_2 x4_3).f0).size) = true := decide_eq_true (by omega)
            clear c18
            obtain rfl := Option.some.inj H
            have hcz19_0 : wr.cell? ⟨qc, 0, none⟩ = some (.bool a0_0) := (blk_cell qb.out 0).trans rfl
            have hcz19_1 : wr.cell? ⟨qc, 1, none⟩ = some (.slice A0_1 l0_1.length c0_1) := (blk_cell qb.out 1).trans rfl
            have hcz19_2 : wr.cell? ⟨qc, 2, none⟩ = some (.slice A0_2 l0_2.length c0_2) := (blk_cell qb.out 2).trans rfl
            have hfz19_0 := blk_frozen qb.out 0
            have hfz19_1 := blk_frozen qb.out 1
            have hfz19_2 := blk_frozen qb.out 2
            have p132 : 0 ≤ (x4_3 : Int) := of_decide_eq_true (by first | (with_reducible assumption) | assumption)
            have q132 : x4_3 < (l0_2.length : Int) := of_decide_eq_true (by first | (with_reducible assumption) | assumption)
            obtain ⟨ad132, e132, hx132_0, hx132_1⟩ := at_T46 HR0_2.out x4_3 p132 q132
            cases e132
            replace hx132_0 := (HB.out.cell (World.block_lt_of_cell? w _ hx132_0)).trans hx132_0
            replace hx132_1 := (HB.out.cell (World.block_lt_of_cell? w _ hx132_1)).trans hx132_1
            replace p132 := eq_true p132
            replace q132 := eq_true q132
            go_wp2
            go_ret
            exact ⟨by first | rfl | (simp [errW_none, errW_some] <;> rfl) | (simp [*, errW_none, errW_some] <;> rfl), by repeat (first | (with_reducible first | exact HB.out | apply below_alloc | apply pw_below_drewN | apply below_drew1 | refine below_set ?_ qd.out) | exact HB.out)⟩
           ·rw [if_neg c18] at H
            have c18b0 : decide (1000 < (((rd_T46 l0_2 x4_3).f0).size : Int)) = false := decide_eq_false c18
            have c18b1 : decide (1000 < ((rd_T46 l0_2 x4_3).f0).size) = false := decide_eq_false (by omega)
            clear c18
            have H' := Aside0.mk H
            clear H
            have hcz20_0 : wr.cell? ⟨qc, 0, none⟩ = some (.bool a0_0) := (blk_cell qb.out 0).trans rfl
            have hcz20_1 : wr.cell? ⟨qc, 1, none⟩ = some (.slice A0_1 l0_1.length c0_1) := (blk_cell qb.out 1).trans rfl
            have hcz20_2 : wr.cell? ⟨qc, 2, none⟩ = some (.slice A0_2 l0_2.length c0_2) := (blk_cell qb.out 2).trans rfl
            have hfz20_0 := blk_frozen qb.out 0
            have hfz20_1 := blk_frozen qb.out 1
            have hfz20_2 := blk_frozen qb.out 2
            have p132 : 0 ≤ (x4_3 : Int) := of_decide_eq_true (by first | (with_reducible assumption) | assumption)
            have q132 : x4_3 < (l0_2.length : Int) := of_decide_eq_true (by first | (with_reducible assumption) | assumption)
            obtain ⟨ad132, e132, hx132_0, hx132_1⟩ := at_T46 HR0_2.out x4_3 p132 q132
            cases e132
            replace hx132_0 := (HB.out.cell (World.block_lt_of_cell? w _ hx132_0)).trans hx132_0
            replace hx132_1 := (HB.out.cell (World.block_lt_of_cell? w _ hx132_1)).trans hx132_1
            replace p132 := eq_true p132
            replace q132 := eq_true q132
            go_wp2
            go_roundg k3
            case measure => have := HJ1.out; have := HK2.out; have := HK3.out; omega
            case rel => exact ⟨(wrap64 (x4_3 + 1)), (by first | rfl | (simp; done) | (simp [*]; done)), H', ⟨by have := HJ1.out; have := HK2.out; have := HK3.out; omega⟩, ⟨by (with_reducible repeat (first | refine blk_drewN ?_ _ | refine blk_drew ?_ | refine blk_alloc ?_ _)); exact qb.out⟩, ⟨by repeat (first | (with_reducible first | exact HB.out | apply below_alloc | apply pw_below_drewN | apply below_drew1 | refine below_set ?_ qd.out) | exact HB.out)⟩⟩
          ·rw [if_neg c17] at H
           exact absurd H (by simp)
         ·rw [if_neg c16] at H
          have c16b0 : decide (x4_3 < (l0_2.length : Int)) = false := decide_eq_false c16
          clear c16
          obtain rfl := Option.some.inj H
          have hcz21_0 : wr.cell? ⟨qc, 0, none⟩ = some (.bool a0_0) := (blk_cell qb.out 0).trans rfl
          have hcz21_1 : wr.cell? ⟨qc, 1, none⟩ = some (.slice A0_1 l0_1.length c0_1) := (blk_cell qb.out 1).trans rfl
          have hcz21_2 : wr.cell? ⟨qc, 2, none⟩ = some (.slice A0_2 l0_2.length c0_2) := (blk_cell qb.out 2).trans rfl
          have hfz21_0 := blk_frozen qb.out 0
          have hfz21_1 := blk_frozen qb.out 1
          have hfz21_2 := blk_frozen qb.out 2
          go_wp2
          go_ret
          exact ⟨by first | rfl | (simp [errW_none, errW_some] <;> rfl) | (simp [*, errW_none, errW_some] <;> rfl), by repeat (first | (with_reducible first | exact HB.out | apply below_alloc | apply pw_below_drewN | apply below_drew1 | refine below_set ?_ qd.out) | exact HB.out)⟩

end Go.Proofs.Ytdkbikaheagbfaa.PT
