-- WRITTEN BY a program of this session (pp.sh)
import Derived.Test.YtdkbikaheagbfaaPAx0
import Derived.Test.YtdkbikaheagbfaaPAx10
import Derived.Test.YtdkbikaheagbfaaPAx11
import Derived.Test.YtdkbikaheagbfaaPAx17
import Derived.Test.YtdkbikaheagbfaaPAx33
import Derived.Test.YtdkbikaheagbfaaPAx34
namespace Go.Proofs.Ytdkbikaheagbfaa.PA
open Go.RowKit Go.Proofs.YtdkbikaheagbfaaW.PrintWords Go.Proofs.YtdkbikaheagbfaaW.PrintLast Go.Proofs.YtdkbikaheagbfaaW.PrintMore Go.Proofs.Ytdkbikaheagbfaa.Plain
attribute [local go_sem] max2_int min2_int max_two min_two max_three min_three max_four min_four binOp_leq_s binOp_gtr_s binOp_geq_s   -- for this text's walks alone
set_option linter.unusedVariables false
set_option linter.unusedSimpArgs false

/-! ### coppicelaw06_NodeFinds: function 4 -/
def coppicelaw06_NodeFinds.j0 : Nat → ByteArray → Bool → Bool → List (S44) → List (S46) → Option (Bool)
  | 0, _, _, _, _, _ => none
  | k + 1, x1, x17, x349000, x349001, x349002 => if x17 = true then (some true) else ((node_Find.f k x349000 x349001 x349002 x1).bind fun bt351 => ((coppiceref06_Find.f k x349000 x349001 x349002 x1).bind fun bt353 => (if bt351.1 = bt353.1 then (some (bt351.2 == bt353.2)) else (some false))))
def coppicelaw06_NodeFinds.f (k : Nat) (a0_0 : Bool) (l0_1 : List (S44)) (l0_2 : List (S46)) (a1 : ByteArray) : Option (Bool) := (coppicelaw06_awake.f).bind fun t349 => (if t349 = true then ((coppiceref06_Great.f k a0_0 l0_1 l0_2).bind fun t350 => (if t350 = true then (coppicelaw06_NodeFinds.j0 k a1 true a0_0 l0_1 l0_2) else (coppicelaw06_NodeFinds.j0 k a1 (decide ((a1.size : Int) > 1000)) a0_0 l0_1 l0_2))) else (some false))
theorem coppicelaw06_NodeFinds.mono_l : ∀ k, (∀ y0 y1 y2 y3 y4, LeO (coppicelaw06_NodeFinds.j0 k y0 y1 y2 y3 y4) (coppicelaw06_NodeFinds.j0 (k + 1) y0 y1 y2 y3 y4))
  | 0 => fun _ _ _ _ _ r h => by simp [coppicelaw06_NodeFinds.j0] at h
  | k + 1 => by
    have ih0 := coppicelaw06_NodeFinds.mono_l k
    · intro y0 y1 y2 y3 y4
      unfold coppicelaw06_NodeFinds.j0
      repeat' first
      | (with_reducible exact ih0 _ _ _ _ _)
      | (with_reducible exact coppiceref06_Find.mono _ _ _ _ _)
      | (with_reducible exact coppiceref06_Great.mono _ _ _ _)
      | (with_reducible exact node_Find.mono _ _ _ _ _)
      | (with_reducible exact LeO.refl _)
      | (with_reducible exact LeO.none _)
      | (with_reducible refine LeO.ite ?_ ?_)
      | (with_reducible refine LeO.bind ?_ (fun _ => ?_))
      | exact ih0 _ _ _ _ _
      | exact coppiceref06_Find.mono _ _ _ _ _
      | exact coppiceref06_Great.mono _ _ _ _
      | exact node_Find.mono _ _ _ _ _
      | exact LeO.none _
      | refine LeO.ite ?_ ?_
      | refine LeO.bind ?_ (fun _ => ?_)
theorem coppicelaw06_NodeFinds.mono : ∀ a0 a1 a2 a3 k, LeO (coppicelaw06_NodeFinds.f k a0 a1 a2 a3) (coppicelaw06_NodeFinds.f (k + 1) a0 a1 a2 a3) := by
  intro a0 a1 a2 a3 k
  have ih0 := coppicelaw06_NodeFinds.mono_l k
  unfold coppicelaw06_NodeFinds.f
  repeat' first
      | (with_reducible exact ih0 _ _ _ _ _)
      | (with_reducible exact coppiceref06_Find.mono _ _ _ _ _)
      | (with_reducible exact coppiceref06_Great.mono _ _ _ _)
      | (with_reducible exact node_Find.mono _ _ _ _ _)
      | (with_reducible exact LeO.refl _)
      | (with_reducible exact LeO.none _)
      | (with_reducible refine LeO.ite ?_ ?_)
      | (with_reducible refine LeO.bind ?_ (fun _ => ?_))
      | exact ih0 _ _ _ _ _
      | exact coppiceref06_Find.mono _ _ _ _ _
      | exact coppiceref06_Great.mono _ _ _ _
      | exact node_Find.mono _ _ _ _ _
      | exact LeO.none _
      | refine LeO.ite ?_ ?_
      | refine LeO.bind ?_ (fun _ => ?_)
set_option maxHeartbeats 8000000 in
set_option maxRecDepth 100000 in
theorem coppicelaw06_NodeFinds.calls (k : Nat) (a0_0 : Bool) (A0_1 : Option Addr) (c0_1 : Nat) (l0_1 : List (S44)) (A0_2 : Option Addr) (c0_2 : Nat) (l0_2 : List (S46)) (a1 : ByteArray) (r : Bool) (w : World) (hr0_1 : Kd.C k44 w A0_1 l0_1.length l0_1) (hc0_1 : l0_1.length ≤ c0_1) (hr0_2 : Kd.C k46 w A0_2 l0_2.length l0_2) (hc0_2 : l0_2.length ≤ c0_2) (h : coppicelaw06_NodeFinds.f k a0_0 l0_1 l0_2 a1 = some r) :
    Calls Try.prog 4 #[.agg #[.bool a0_0, .slice A0_1 l0_1.length c0_1, .slice A0_2 l0_2.length c0_2], .string a1] w fun e w' => e = .returned (.bool r) ∧ Below w.heap.size w w' := by
  have hu25 := Try.underlying25
  have HR0_1 := Aside0.mk hr0_1
  have HC0_1 := Aside0.mk hc0_1
  clear hr0_1 hc0_1
  have HR0_2 := Aside0.mk hr0_2
  have HC0_2 := Aside0.mk hc0_2
  clear hr0_2 hc0_2
  have HB := Aside0.mk (Below.refl w.heap.size w)
  have H : ((coppicelaw06_awake.f).bind fun t349 => (if t349 = true then ((coppiceref06_Great.f k a0_0 l0_1 l0_2).bind fun t350 => (if t350 = true then (coppicelaw06_NodeFinds.j0 k a1 true a0_0 l0_1 l0_2) else (coppicelaw06_NodeFinds.j0 k a1 (decide ((a1.size : Int) > 1000)) a0_0 l0_1 l0_2))) else (some false))) = some r := h
  clear h
  replace H := Option.bind_eq_some_iff.mp H
  obtain ⟨t349, A30, H⟩ := H
  replace H : (if t349 = true then ((coppiceref06_Great.f k a0_0 l0_1 l0_2).bind fun t350 => (if t350 = true then (coppicelaw06_NodeFinds.j0 k a1 true a0_0 l0_1 l0_2) else (coppicelaw06_NodeFinds.j0 k a1 (decide ((a1.size : Int) > 1000)) a0_0 l0_1 l0_2))) else (some false)) = some r := H
  have A3 := Aside0.mk A30
  clear A30
  by_cases c4 : t349 = true
  · subst c4
    have H1 : ((coppiceref06_Great.f k a0_0 l0_1 l0_2).bind fun t350 => (if t350 = true then (coppicelaw06_NodeFinds.j0 k a1 true a0_0 l0_1 l0_2) else (coppicelaw06_NodeFinds.j0 k a1 (decide ((a1.size : Int) > 1000)) a0_0 l0_1 l0_2))) = some r := by rw [if_pos rfl] at H; exact H
    clear H
    have H := H1
    clear H1
    have HC5 := Aside0.mk H
    clear H
    go_enter Try.func4, Try.ntmps4
    go_upto_region 3 with (first | ((with_reducible refine gate_dst (N := 2) rfl ?_); (try (refine gate_guard (by rfl) ?_; dsimp only)); refine box_event ?hg (N := 2) ?hd (cs := #[.bool a0_0, .slice A0_1 l0_1.length c0_1, .slice A0_2 l0_2.length c0_2]) (t := 25) ?hr ?_; (case hd => rfl); (case hg => rfl); (case hr => first | (go_simp; done) | (go_simp; rfl)); intro gb348 hg w6 hbox hb; have n0_ := Aside0.mk (below_step (by repeat (first | (with_reducible first | exact HB.out | apply below_alloc | apply pw_below_drewN | apply below_drew1) | exact HB.out)) hb); have n1_ := Aside0.mk (hbox); have n2_ := Aside0.mk ((by rw [hg]; exact (below_size (by repeat (first | (with_reducible first | exact HB.out | apply below_alloc | apply pw_below_drewN | apply below_drew1) | exact HB.out))) : w.heap.size ≤ gb348)); have n3_ := Aside0.mk ((by rw [hg]; exact (below_size (by repeat (first | (with_reducible first | exact HB.out | apply below_alloc | apply pw_below_drewN | apply below_drew1) | exact HB.out))) : w.heap.size ≤ gb348)); clear HB; have HB := n0_; have BK348 := n1_; have GW348 := n2_; have GE348 := n3_; clear n0_ n1_ n2_ n3_; clear hb hbox hg) | ((with_reducible refine gate_callee (f := 9) rfl ?_); refine goesL_ (some 9) rfl rfl Try.func9 (by kernel_rfl) rfl #[] rfl (by (try simp only [List.map_toArray, List.map_cons, List.map_nil]); first | done | rfl | (simp only [List.length_drop, List.length_take]; rfl)) ?_; (with_reducible refine (coppicelaw06_awake.calls  true _ A3.out).mono ?_); rintro e w7 ⟨rfl, hb⟩; refine ⟨_, rfl, ?_⟩; have n0_ := Aside0.mk (blk_below (g := gb348) (o := .cells #[.bool a0_0, .slice A0_1 l0_1.length c0_1, .slice A0_2 l0_2.length c0_2] 25 (0, 0)) (by (with_reducible repeat (first | refine blk_drewN ?_ _ | refine blk_drew ?_ | refine blk_alloc ?_ _)); exact BK348.out) hb); have n1_ := Aside0.mk (below_step (by repeat (first | (with_reducible first | exact HB.out | apply below_alloc | apply pw_below_drewN | apply below_drew1 | refine below_set ?_ GE348.out) | exact HB.out)) hb); clear BK348; clear HB; have BK348 := n0_; have HB := n1_; clear n0_ n1_; (try clear hb); (try clear hb2); (try clear hk); (try clear hi)))
    (try simp only [Act.put, List.setIfInBounds_toArray, List.set_cons_zero, List.set_cons_succ])
    go_cut [17] (fun v17 wc => ∃ (kq : Nat) (x17_4 : Bool), v17 = .bool x17_4 ∧ Aside0 (coppicelaw06_NodeFinds.j0 kq a1 x17_4 a0_0 l0_1 l0_2 = some r) ∧ Aside0 (kq ≤ k) ∧ Aside0 (wc.heap[gb348]? = some (.cells #[.bool a0_0, (.slice A0_1 l0_1.length c0_1), (.slice A0_2 l0_2.length c0_2)] 25 (0, 0))) ∧ Aside0 (Below w.heap.size w wc))
    case first =>
      have H := HC5.out
      clear HC5
      replace H := Option.bind_eq_some_iff.mp H
      obtain ⟨t350, A80, H⟩ := H
      replace H : (if t350 = true then (coppicelaw06_NodeFinds.j0 k a1 true a0_0 l0_1 l0_2) else (coppicelaw06_NodeFinds.j0 k a1 (decide ((a1.size : Int) > 1000)) a0_0 l0_1 l0_2)) = some r := H
      have A8 := Aside0.mk A80
      clear A80
      by_cases c9 : t350 = true
      · subst c9
        have H1 : (coppicelaw06_NodeFinds.j0 k a1 true a0_0 l0_1 l0_2) = some r := by rw [if_pos rfl] at H; exact H
        clear H
        have H := H1
        clear H1
        have H' := Aside0.mk H
        clear H
        have hcz10_0 : w7.cell? ⟨gb348, 0, none⟩ = some (.bool a0_0) := (blk_cell BK348.out 0).trans rfl
        have hcz10_1 : w7.cell? ⟨gb348, 1, none⟩ = some (.slice A0_1 l0_1.length c0_1) := (blk_cell BK348.out 1).trans rfl
        have hcz10_2 : w7.cell? ⟨gb348, 2, none⟩ = some (.slice A0_2 l0_2.length c0_2) := (blk_cell BK348.out 2).trans rfl
        have hfz10_0 := blk_frozen BK348.out 0
        have hfz10_1 := blk_frozen BK348.out 1
        have hfz10_2 := blk_frozen BK348.out 2
        go_wp2_with (first | ((with_reducible refine gate_callee (f := 10) rfl ?_); refine goesL_ (some 12) rfl rfl Try.func10 (by kernel_rfl) rfl #[.agg #[.bool a0_0, .slice A0_1 l0_1.length c0_1, .slice A0_2 l0_2.length c0_2]] rfl (by (try simp only [List.map_toArray, List.map_cons, List.map_nil]); first | done | rfl | (simp only [List.length_drop, List.length_take]; rfl)) ?_; (with_reducible refine (coppiceref06_Great.calls k a0_0 _ _ l0_1 _ _ l0_2 true _ ?side1 ?side2 ?side3 ?side4 A8.out).mono ?_); (case side1 => repeat (first | exact (Kd.C_below HR0_1.out HB.out) | (with_reducible refine Kd.C_alloc ?_ _) | (with_reducible refine Kd.C_drewN ?_ _) | (with_reducible refine Kd.C_drew ?_))); (case side2 => exact HC0_1.out); (case side3 => repeat (first | exact (Kd.C_below HR0_2.out HB.out) | (with_reducible refine Kd.C_alloc ?_ _) | (with_reducible refine Kd.C_drewN ?_ _) | (with_reducible refine Kd.C_drew ?_))); (case side4 => exact HC0_2.out); rintro e w11 ⟨rfl, hb⟩; refine ⟨_, rfl, ?_⟩; have n0_ := Aside0.mk (blk_below (g := gb348) (o := .cells #[.bool a0_0, .slice A0_1 l0_1.length c0_1, .slice A0_2 l0_2.length c0_2] 25 (0, 0)) (by (with_reducible repeat (first | refine blk_drewN ?_ _ | refine blk_drew ?_ | refine blk_alloc ?_ _)); exact BK348.out) hb); have n1_ := Aside0.mk (below_step (by repeat (first | (with_reducible first | exact HB.out | apply below_alloc | apply pw_below_drewN | apply below_drew1 | refine below_set ?_ GE348.out) | exact HB.out)) hb); clear BK348; clear HB; have BK348 := n0_; have HB := n1_; clear n0_ n1_; (try clear hb); (try clear hb2); (try clear hk); (try clear hi)))
        go_meet
        case rel => exact ⟨_, (true), (by first | rfl | (simp; done) | (simp [*]; done)), H', ⟨by first | omega | exact Nat.le_refl _⟩, ⟨by (with_reducible repeat (first | refine blk_drewN ?_ _ | refine blk_drew ?_ | refine blk_alloc ?_ _)); exact BK348.out⟩, ⟨by repeat (first | (with_reducible first | exact HB.out | apply below_alloc | apply pw_below_drewN | apply below_drew1 | refine below_set ?_ GE348.out) | exact HB.out)⟩⟩
      · replace c9 := Bool.eq_false_iff.mpr c9
        subst c9
        have H1 : (coppicelaw06_NodeFinds.j0 k a1 (decide ((a1.size : Int) > 1000)) a0_0 l0_1 l0_2) = some r := by rw [if_neg (show ¬ (false = true) by decide)] at H; exact H
        clear H
        have H := H1
        clear H1
        have H' := Aside0.mk H
        clear H
        have hcz12_0 : w7.cell? ⟨gb348, 0, none⟩ = some (.bool a0_0) := (blk_cell BK348.out 0).trans rfl
        have hcz12_1 : w7.cell? ⟨gb348, 1, none⟩ = some (.slice A0_1 l0_1.length c0_1) := (blk_cell BK348.out 1).trans rfl
        have hcz12_2 : w7.cell? ⟨gb348, 2, none⟩ = some (.slice A0_2 l0_2.length c0_2) := (blk_cell BK348.out 2).trans rfl
        have hfz12_0 := blk_frozen BK348.out 0
        have hfz12_1 := blk_frozen BK348.out 1
        have hfz12_2 := blk_frozen BK348.out 2
        go_wp2_with (first | ((with_reducible refine gate_callee (f := 10) rfl ?_); refine goesL_ (some 12) rfl rfl Try.func10 (by kernel_rfl) rfl #[.agg #[.bool a0_0, .slice A0_1 l0_1.length c0_1, .slice A0_2 l0_2.length c0_2]] rfl (by (try simp only [List.map_toArray, List.map_cons, List.map_nil]); first | done | rfl | (simp only [List.length_drop, List.length_take]; rfl)) ?_; (with_reducible refine (coppiceref06_Great.calls k a0_0 _ _ l0_1 _ _ l0_2 false _ ?side1 ?side2 ?side3 ?side4 A8.out).mono ?_); (case side1 => repeat (first | exact (Kd.C_below HR0_1.out HB.out) | (with_reducible refine Kd.C_alloc ?_ _) | (with_reducible refine Kd.C_drewN ?_ _) | (with_reducible refine Kd.C_drew ?_))); (case side2 => exact HC0_1.out); (case side3 => repeat (first | exact (Kd.C_below HR0_2.out HB.out) | (with_reducible refine Kd.C_alloc ?_ _) | (with_reducible refine Kd.C_drewN ?_ _) | (with_reducible refine Kd.C_drew ?_))); (case side4 => exact HC0_2.out); rintro e w13 ⟨rfl, hb⟩; refine ⟨_, rfl, ?_⟩; have n0_ := Aside0.mk (blk_below (g := gb348) (o := .cells #[.bool a0_0, .slice A0_1 l0_1.length c0_1, .slice A0_2 l0_2.length c0_2] 25 (0, 0)) (by (with_reducible repeat (first | refine blk_drewN ?_ _ | refine blk_drew ?_ | refine blk_alloc ?_ _)); exact BK348.out) hb); have n1_ := Aside0.mk (below_step (by repeat (first | (with_reducible first | exact HB.out | apply below_alloc | apply pw_below_drewN | apply below_drew1 | refine below_set ?_ GE348.out) | exact HB.out)) hb); clear BK348; clear HB; have BK348 := n0_; have HB := n1_; clear n0_ n1_; (try clear hb); (try clear hb2); (try clear hk); (try clear hi)))
        go_meet
        case rel => exact ⟨_, (decide ((a1.size : Int) > 1000)), (by first | rfl | (simp; done) | (simp [*]; done)), H', ⟨by first | omega | exact Nat.le_refl _⟩, ⟨by (with_reducible repeat (first | refine blk_drewN ?_ _ | refine blk_drew ?_ | refine blk_alloc ?_ _)); exact BK348.out⟩, ⟨by repeat (first | (with_reducible first | exact HB.out | apply below_alloc | apply pw_below_drewN | apply below_drew1 | refine below_set ?_ GE348.out) | exact HB.out)⟩⟩
    case rest =>
      clear HC5
      try clear c1
      try clear p2
      try clear c4
      try clear c9
      try clear c10
      try clear hcz10_0
      try clear hcz10_1
      try clear hcz10_2
      try clear hcz12_0
      try clear hcz12_1
      try clear hcz12_2
      try clear hfz10_0
      try clear hfz10_1
      try clear hfz10_2
      try clear hfz12_0
      try clear hfz12_1
      try clear hfz12_2
      obtain ⟨kq, x17_4, rfl, HA, HJ4, BK348, HB⟩ := hcut
      cases kq with
      | zero => exact absurd HA.out (by simp [coppicelaw06_NodeFinds.j0])
      | succ kj4 =>
        have H := HA.out
        clear HA
        simp only [coppicelaw06_NodeFinds.j0] at H
        by_cases c14 : x17_4 = true
        · subst c14
          have H1 : (some true) = some r := by rw [if_pos rfl] at H; exact H
          clear H
          have H := H1
          clear H1
          obtain rfl := Option.some.inj H
          go_wp2
          go_ret
          exact ⟨by first | rfl | (simp [errW_none, errW_some] <;> rfl) | (simp [*, errW_none, errW_some] <;> rfl), by repeat (first | (with_reducible first | exact HB.out | apply below_alloc | apply pw_below_drewN | apply below_drew1 | refine below_set ?_ GE348.out) | exact HB.out)⟩
        · replace c14 := Bool.eq_false_iff.mpr c14
          subst c14
          have H1 : ((node_Find.f kj4 a0_0 l0_1 l0_2 a1).bind fun bt351 => ((coppiceref06_Find.f kj4 a0_0 l0_1 l0_2 a1).bind fun bt353 => (if bt351.1 = bt353.1 then (some (bt351.2 == bt353.2)) else (some false)))) = some r := by rw [if_neg (show ¬ (false = true) by decide)] at H; exact H
          clear H
          have H := H1
          clear H1
          replace H := Option.bind_eq_some_iff.mp H
          obtain ⟨⟨t351, t352⟩, A150, H⟩ := H
          replace H : ((coppiceref06_Find.f kj4 a0_0 l0_1 l0_2 a1).bind fun bt353 => (if t351 = bt353.1 then (some (t352 == bt353.2)) else (some false))) = some r := H
          have A15 := Aside0.mk A150
          clear A150
          replace H := Option.bind_eq_some_iff.mp H
          obtain ⟨⟨t353, t354⟩, A160, H⟩ := H
          replace H : (if t351 = t353 then (some (t352 == t354)) else (some false)) = some r := H
          have A16 := Aside0.mk A160
          clear A160
          by_cases c17 : t351 = t353
          · rw [if_pos c17] at H
            have c17b0 : (t351 == t353) = true := beq_iff_eq.mpr c17
            have c17b1 : (t351 != t353) = false := bne_eq_false_iff_eq.mpr c17
            clear c17
            obtain rfl := Option.some.inj H
            have hcz18_0 : wc.cell? ⟨gb348, 0, none⟩ = some (.bool a0_0) := (blk_cell BK348.out 0).trans rfl
            have hcz18_1 : wc.cell? ⟨gb348, 1, none⟩ = some (.slice A0_1 l0_1.length c0_1) := (blk_cell BK348.out 1).trans rfl
            have hcz18_2 : wc.cell? ⟨gb348, 2, none⟩ = some (.slice A0_2 l0_2.length c0_2) := (blk_cell BK348.out 2).trans rfl
            have hfz18_0 := blk_frozen BK348.out 0
            have hfz18_1 := blk_frozen BK348.out 1
            have hfz18_2 := blk_frozen BK348.out 2
            go_wp2_with (first | ((with_reducible refine gate_callee (f := 17) rfl ?_); refine goesL_ (some 21) rfl rfl Try.func17 (by kernel_rfl) rfl #[.agg #[.bool a0_0, .slice A0_1 l0_1.length c0_1, .slice A0_2 l0_2.length c0_2], .string a1] rfl (by (try simp only [List.map_toArray, List.map_cons, List.map_nil]); first | done | rfl | (simp only [List.length_drop, List.length_take]; rfl)) ?_; (with_reducible refine (node_Find.calls kj4 a0_0 _ _ l0_1 _ _ l0_2 a1 t351 t352 _ ?side1 ?side2 ?side3 ?side4 A15.out).mono ?_); (case side1 => repeat (first | exact (Kd.C_below HR0_1.out HB.out) | (with_reducible refine Kd.C_alloc ?_ _) | (with_reducible refine Kd.C_drewN ?_ _) | (with_reducible refine Kd.C_drew ?_))); (case side2 => exact HC0_1.out); (case side3 => repeat (first | exact (Kd.C_below HR0_2.out HB.out) | (with_reducible refine Kd.C_alloc ?_ _) | (with_reducible refine Kd.C_drewN ?_ _) | (with_reducible refine Kd.C_drew ?_))); (case side4 => exact HC0_2.out); rintro e w19 ⟨rfl, hb⟩; refine ⟨_, rfl, ?_⟩; have n0_ := Aside0.mk (blk_below (g := gb348) (o := .cells #[.bool a0_0, .slice A0_1 l0_1.length c0_1, .slice A0_2 l0_2.length c0_2] 25 (0, 0)) (by (with_reducible repeat (first | refine blk_drewN ?_ _ | refine blk_drew ?_ | refine blk_alloc ?_ _)); exact BK348.out) hb); have n1_ := Aside0.mk (below_step (by repeat (first | (with_reducible first | exact HB.out | apply below_alloc | apply pw_below_drewN | apply below_drew1 | refine below_set ?_ GE348.out) | exact HB.out)) hb); clear BK348; clear HB; have BK348 := n0_; have HB := n1_; clear n0_ n1_; (try clear hb); (try clear hb2); (try clear hk); (try clear hi); have hcz20_0 : w19.cell? ⟨gb348, 0, none⟩ = some (.bool a0_0) := (blk_cell BK348.out 0).trans rfl; have hcz20_1 : w19.cell? ⟨gb348, 1, none⟩ = some (.slice A0_1 l0_1.length c0_1) := (blk_cell BK348.out 1).trans rfl; have hcz20_2 : w19.cell? ⟨gb348, 2, none⟩ = some (.slice A0_2 l0_2.length c0_2) := (blk_cell BK348.out 2).trans rfl; have hfz20_0 := blk_frozen BK348.out 0; have hfz20_1 := blk_frozen BK348.out 1; have hfz20_2 := blk_frozen BK348.out 2) | ((with_reducible refine gate_callee (f := 18) rfl ?_); refine goesL_ (some 27) rfl rfl Try.func18 (by kernel_rfl) rfl #[.agg #[.bool a0_0, .slice A0_1 l0_1.length c0_1, .slice A0_2 l0_2.length c0_2], .string a1] rfl (by (try simp only [List.map_toArray, List.map_cons, List.map_nil]); first | done | rfl | (simp only [List.length_drop, List.length_take]; rfl)) ?_; (with_reducible refine (coppiceref06_Find.calls kj4 a0_0 _ _ l0_1 _ _ l0_2 a1 t353 t354 _ ?side1 ?side2 ?side3 ?side4 A16.out).mono ?_); (case side1 => repeat (first | exact (Kd.C_below HR0_1.out HB.out) | (with_reducible refine Kd.C_alloc ?_ _) | (with_reducible refine Kd.C_drewN ?_ _) | (with_reducible refine Kd.C_drew ?_))); (case side2 => exact HC0_1.out); (case side3 => repeat (first | exact (Kd.C_below HR0_2.out HB.out) | (with_reducible refine Kd.C_alloc ?_ _) | (with_reducible refine Kd.C_drewN ?_ _) | (with_reducible refine Kd.C_drew ?_))); (case side4 => exact HC0_2.out); rintro e w21 ⟨rfl, hb⟩; refine ⟨_, rfl, ?_⟩; have n0_ := Aside0.mk (blk_below (g := gb348) (o := .cells #[.bool a0_0, .slice A0_1 l0_1.length c0_1, .slice A0_2 l0_2.length c0_2] 25 (0, 0)) (by (with_reducible repeat (first | refine blk_drewN ?_ _ | refine blk_drew ?_ | refine blk_alloc ?_ _)); exact BK348.out) hb); have n1_ := Aside0.mk (below_step (by repeat (first | (with_reducible first | exact HB.out | apply below_alloc | apply pw_below_drewN | apply below_drew1 | refine below_set ?_ GE348.out) | exact HB.out)) hb); clear BK348; clear HB; have BK348 := n0_; have HB := n1_; clear n0_ n1_; (try clear hb); (try clear hb2); (try clear hk); (try clear hi)))
            go_ret
            exact ⟨by first | rfl | (simp [errW_none, errW_some] <;> rfl) | (simp [*, errW_none, errW_some] <;> rfl), by repeat (first | (with_reducible first | exact HB.out | apply below_alloc | apply pw_below_drewN | apply below_drew1 | refine below_set ?_ GE348.out) | exact HB.out)⟩
          · rw [if_neg c17] at H
            have c17b0 : (t351 == t353) = false := beq_eq_false_iff_ne.mpr c17
            have c17b1 : (t351 != t353) = true := bne_iff_ne.mpr c17
            obtain rfl := Option.some.inj H
            have hcz22_0 : wc.cell? ⟨gb348, 0, none⟩ = some (.bool a0_0) := (blk_cell BK348.out 0).trans rfl
            have hcz22_1 : wc.cell? ⟨gb348, 1, none⟩ = some (.slice A0_1 l0_1.length c0_1) := (blk_cell BK348.out 1).trans rfl
            have hcz22_2 : wc.cell? ⟨gb348, 2, none⟩ = some (.slice A0_2 l0_2.length c0_2) := (blk_cell BK348.out 2).trans rfl
            have hfz22_0 := blk_frozen BK348.out 0
            have hfz22_1 := blk_frozen BK348.out 1
            have hfz22_2 := blk_frozen BK348.out 2
            go_wp2_with (first | ((with_reducible refine gate_callee (f := 17) rfl ?_); refine goesL_ (some 21) rfl rfl Try.func17 (by kernel_rfl) rfl #[.agg #[.bool a0_0, .slice A0_1 l0_1.length c0_1, .slice A0_2 l0_2.length c0_2], .string a1] rfl (by (try simp only [List.map_toArray, List.map_cons, List.map_nil]); first | done | rfl | (simp only [List.length_drop, List.length_take]; rfl)) ?_; (with_reducible refine (node_Find.calls kj4 a0_0 _ _ l0_1 _ _ l0_2 a1 t351 t352 _ ?side1 ?side2 ?side3 ?side4 A15.out).mono ?_); (case side1 => repeat (first | exact (Kd.C_below HR0_1.out HB.out) | (with_reducible refine Kd.C_alloc ?_ _) | (with_reducible refine Kd.C_drewN ?_ _) | (with_reducible refine Kd.C_drew ?_))); (case side2 => exact HC0_1.out); (case side3 => repeat (first | exact (Kd.C_below HR0_2.out HB.out) | (with_reducible refine Kd.C_alloc ?_ _) | (with_reducible refine Kd.C_drewN ?_ _) | (with_reducible refine Kd.C_drew ?_))); (case side4 => exact HC0_2.out); rintro e w23 ⟨rfl, hb⟩; refine ⟨_, rfl, ?_⟩; have n0_ := Aside0.mk (blk_below (g := gb348) (o := .cells #[.bool a0_0, .slice A0_1 l0_1.length c0_1, .slice A0_2 l0_2.length c0_2] 25 (0, 0)) (by (with_reducible repeat (first | refine blk_drewN ?_ _ | refine blk_drew ?_ | refine blk_alloc ?_ _)); exact BK348.out) hb); have n1_ := Aside0.mk (below_step (by repeat (first | (with_reducible first | exact HB.out | apply below_alloc | apply pw_below_drewN | apply below_drew1 | refine below_set ?_ GE348.out) | exact HB.out)) hb); clear BK348; clear HB; have BK348 := n0_; have HB := n1_; clear n0_ n1_; (try clear hb); (try clear hb2); (try clear hk); (try clear hi); have hcz24_0 : w23.cell? ⟨gb348, 0, none⟩ = some (.bool a0_0) := (blk_cell BK348.out 0).trans rfl; have hcz24_1 : w23.cell? ⟨gb348, 1, none⟩ = some (.slice A0_1 l0_1.length c0_1) := (blk_cell BK348.out 1).trans rfl; have hcz24_2 : w23.cell? ⟨gb348, 2, none⟩ = some (.slice A0_2 l0_2.length c0_2) := (blk_cell BK348.out 2).trans rfl; have hfz24_0 := blk_frozen BK348.out 0; have hfz24_1 := blk_frozen BK348.out 1; have hfz24_2 := blk_frozen BK348.out 2) | ((with_reducible refine gate_callee (f := 18) rfl ?_); refine goesL_ (some 27) rfl rfl Try.func18 (by kernel_rfl) rfl #[.agg #[.bool a0_0, .slice A0_1 l0_1.length c0_1, .slice A0_2 l0_2.length c0_2], .string a1] rfl (by (try simp only [List.map_toArray, List.map_cons, List.map_nil]); first | done | rfl | (simp only [List.length_drop, List.length_take]; rfl)) ?_; (with_reducible refine (coppiceref06_Find.calls kj4 a0_0 _ _ l0_1 _ _ l0_2 a1 t353 t354 _ ?side1 ?side2 ?side3 ?side4 A16.out).mono ?_); (case side1 => repeat (first | exact (Kd.C_below HR0_1.out HB.out) | (with_reducible refine Kd.C_alloc ?_ _) | (with_reducible refine Kd.C_drewN ?_ _) | (with_reducible refine Kd.C_drew ?_))); (case side2 => exact HC0_1.out); (case side3 => repeat (first | exact (Kd.C_below HR0_2.out HB.out) | (with_reducible refine Kd.C_alloc ?_ _) | (with_reducible refine Kd.C_drewN ?_ _) | (with_reducible refine Kd.C_drew ?_))); (case side4 => exact HC0_2.out); rintro e w25 ⟨rfl, hb⟩; refine ⟨_, rfl, ?_⟩; have n0_ := Aside0.mk (blk_below (g := gb348) (o := .cells #[.bool a0_0, .slice A0_1 l0_1.length c0_1, .slice A0_2 l0_2.length c0_2] 25 (0, 0)) (by (with_reducible repeat (first | refine blk_drewN ?_ _ | refine blk_drew ?_ | refine blk_alloc ?_ _)); exact BK348.out) hb); have n1_ := Aside0.mk (below_step (by repeat (first | (with_reducible first | exact HB.out | apply below_alloc | apply pw_below_drewN | apply below_drew1 | refine below_set ?_ GE348.out) | exact HB.out)) hb); clear BK348; clear HB; have BK348 := n0_; have HB := n1_; clear n0_ n1_; (try clear hb); (try clear hb2); (try clear hk); (try clear hi)))
            go_ret
            exact ⟨by first | rfl | (simp [errW_none, errW_some] <;> rfl) | (simp [*, errW_none, errW_some] <;> rfl), by repeat (first | (with_reducible first | exact HB.out | apply below_alloc | apply pw_below_drewN | apply below_drew1 | refine below_set ?_ GE348.out) | exact HB.out)⟩
  · replace c4 := Bool.eq_false_iff.mpr c4
    subst c4
    have H1 : (some false) = some r := by rw [if_neg (show ¬ (false = true) by decide)] at H; exact H
    clear H
    have H := H1
    clear H1
    obtain rfl := Option.some.inj H
    go_enter Try.func4, Try.ntmps4
    go_wp2_with (first | ((with_reducible refine gate_dst (N := 2) rfl ?_); (try (refine gate_guard (by rfl) ?_; dsimp only)); refine box_event ?hg (N := 2) ?hd (cs := #[.bool a0_0, .slice A0_1 l0_1.length c0_1, .slice A0_2 l0_2.length c0_2]) (t := 25) ?hr ?_; (case hd => rfl); (case hg => rfl); (case hr => first | (go_simp; done) | (go_simp; rfl)); intro gb348 hg w26 hbox hb; have n0_ := Aside0.mk (below_step (by repeat (first | (with_reducible first | exact HB.out | apply below_alloc | apply pw_below_drewN | apply below_drew1) | exact HB.out)) hb); have n1_ := Aside0.mk (hbox); have n2_ := Aside0.mk ((by rw [hg]; exact (below_size (by repeat (first | (with_reducible first | exact HB.out | apply below_alloc | apply pw_below_drewN | apply below_drew1) | exact HB.out))) : w.heap.size ≤ gb348)); have n3_ := Aside0.mk ((by rw [hg]; exact (below_size (by repeat (first | (with_reducible first | exact HB.out | apply below_alloc | apply pw_below_drewN | apply below_drew1) | exact HB.out))) : w.heap.size ≤ gb348)); clear HB; have HB := n0_; have BK348 := n1_; have GW348 := n2_; have GE348 := n3_; clear n0_ n1_ n2_ n3_; clear hb hbox hg) | ((with_reducible refine gate_callee (f := 9) rfl ?_); refine goesL_ (some 9) rfl rfl Try.func9 (by kernel_rfl) rfl #[] rfl (by (try simp only [List.map_toArray, List.map_cons, List.map_nil]); first | done | rfl | (simp only [List.length_drop, List.length_take]; rfl)) ?_; (with_reducible refine (coppicelaw06_awake.calls  false _ A3.out).mono ?_); rintro e w27 ⟨rfl, hb⟩; refine ⟨_, rfl, ?_⟩; have n0_ := Aside0.mk (blk_below (g := gb348) (o := .cells #[.bool a0_0, .slice A0_1 l0_1.length c0_1, .slice A0_2 l0_2.length c0_2] 25 (0, 0)) (by (with_reducible repeat (first | refine blk_drewN ?_ _ | refine blk_drew ?_ | refine blk_alloc ?_ _)); exact BK348.out) hb); have n1_ := Aside0.mk (below_step (by repeat (first | (with_reducible first | exact HB.out | apply below_alloc | apply pw_below_drewN | apply below_drew1 | refine below_set ?_ GE348.out) | exact HB.out)) hb); clear BK348; clear HB; have BK348 := n0_; have HB := n1_; clear n0_ n1_; (try clear hb); (try clear hb2); (try clear hk); (try clear hi)))
    go_ret
    exact ⟨by first | rfl | (simp [errW_none, errW_some] <;> rfl) | (simp [*, errW_none, errW_some] <;> rfl), by repeat (first | (with_reducible first | exact HB.out | apply below_alloc | apply pw_below_drewN | apply below_drew1 | refine below_set ?_ GE348.out) | exact HB.out)⟩

/-- THE ONE PURE STATEMENT of coppicelaw06_NodeFinds. -/
def coppicelaw06_NodeFinds.Pure : Prop := ∀ (x0 : S25) (x1 : ByteArray), wf25 x0 → x1.size ≤ 140737488351232 → ∃ k, coppicelaw06_NodeFinds.f k x0.f0 x0.f1 x0.f2 x1 = some true

-- NOT PRINTED: function 66 (slices_Clone_Item)

-- NOT PRINTED: function 67 (slices_Clone_Kid)

-- NOT PRINTED: function 34 (node_part)

-- NOT PRINTED: function 19 (node_Split)

-- NOT PRINTED: function 20 (coppiceref06_Split)

-- NOT PRINTED: function 5 (coppicelaw06_NodeSplits)

-- NOT PRINTED: function 68 (slices_Grow_Item)

-- NOT PRINTED: function 35 (slices_Concat_Item)

-- NOT PRINTED: function 69 (slices_Grow_Kid)

-- NOT PRINTED: function 36 (slices_Concat_Kid)

-- NOT PRINTED: function 22 (node_Join)

end Go.Proofs.Ytdkbikaheagbfaa.PA
