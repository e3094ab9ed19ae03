-- WRITTEN BY a program of this session (pp.sh)
import Derived.Test.YtgnffienfjigiaaDoorPAx0
import Derived.Test.YtgnffienfjigiaaDoorPAx2
import Derived.Test.YtgnffienfjigiaaDoorPAx6
import Derived.Test.YtgnffienfjigiaaDoorPAx7
import Derived.Test.YtgnffienfjigiaaDoorPAx8
import Derived.Test.YtgnffienfjigiaaDoorPAx9
namespace Go.Proofs.YtgnffienfjigiaaDoor.PA
open Go.RowKit Go.Proofs.YtgnffienfjigiaaDoorW.PrintWords Go.Proofs.YtgnffienfjigiaaDoorW.PrintLast Go.Proofs.YtgnffienfjigiaaDoorW.PrintMore Go.Proofs.YtgnffienfjigiaaDoor.Plain
attribute [local go_sem] max2_int min2_int max_two min_two max_three min_three max_four min_four binOp_leq_s binOp_gtr_s binOp_geq_s lit_byte   -- for this text's walks alone
set_option linter.unusedVariables false
set_option linter.unusedSimpArgs false

/-! ### coppicelaw13_SparseRanges: function 4 -/
mutual
def coppicelaw13_SparseRanges.j0 : Nat → List (S39) → Int → Int → Bool → Option (Bool)
 | 0, _, _, _, _ => none
 | k + 1, x0, x1, x2, x27 => if x27 = true then (some true) else ((coppicelaw13_own.f x0).bind fun t139 => ((sparse_Ranges.f k t139 x1).bind fun bt142 => (if bt142.2 = 0 then (coppicelaw13_SparseRanges.l0 k x0 x1 x2 bt142.1 false false 0) else (if (bt142.1.length : Int) = 0 then ((coppicelaw13_own.f x0).bind fun t146 => ((sparse_Check.f k t146 x1).bind fun t149 => (some (t149 == bt142.2)))) else (some false)))))
def coppicelaw13_SparseRanges.l0 : Nat → List (S39) → Int → Int → List (S37) → Bool → Bool → Int → Option (Bool)
 | 0, _, _, _, _, _, _, _ => none
 | k + 1, x0, x1, x2, x7, x9, x10, x11 => if x11 < (x7.length : Int) then (if x9 = true then (if 0 ≤ x11 then (if ((rd_T37 x7 x11).f0) ≥ ((rd_T37 x7 x11).f1) then (some false) else (if ((rd_T37 x7 x11).f1) > x1 then (some false) else (if x11 > 0 then (if 0 ≤ (wrap64 (x11 - 1)) then (if (wrap64 (x11 - 1)) < (x7.length : Int) then (if ((rd_T37 x7 (wrap64 (x11 - 1))).f1) ≥ ((rd_T37 x7 x11).f0) then (some false) else (coppicelaw13_SparseRanges.l0 k x0 x1 x2 x7 true x10 (wrap64 (x11 + 1)))) else (none)) else (none)) else (coppicelaw13_SparseRanges.l0 k x0 x1 x2 x7 true x10 (wrap64 (x11 + 1)))))) else (none)) else (if 0 ≤ x11 then (if x2 ≥ ((rd_T37 x7 x11).f0) then (if ((rd_T37 x7 x11).f0) ≥ ((rd_T37 x7 x11).f1) then (some false) else (if ((rd_T37 x7 x11).f1) > x1 then (some false) else (if x11 > 0 then (if 0 ≤ (wrap64 (x11 - 1)) then (if (wrap64 (x11 - 1)) < (x7.length : Int) then (if ((rd_T37 x7 (wrap64 (x11 - 1))).f1) ≥ ((rd_T37 x7 x11).f0) then (some false) else (coppicelaw13_SparseRanges.l0 k x0 x1 x2 x7 (decide (x2 < ((rd_T37 x7 x11).f1))) x10 (wrap64 (x11 + 1)))) else (none)) else (none)) else (coppicelaw13_SparseRanges.l0 k x0 x1 x2 x7 (decide (x2 < ((rd_T37 x7 x11).f1))) x10 (wrap64 (x11 + 1)))))) else (if ((rd_T37 x7 x11).f0) ≥ ((rd_T37 x7 x11).f1) then (some false) else (if ((rd_T37 x7 x11).f1) > x1 then (some false) else (if x11 > 0 then (if 0 ≤ (wrap64 (x11 - 1)) then (if (wrap64 (x11 - 1)) < (x7.length : Int) then (if ((rd_T37 x7 (wrap64 (x11 - 1))).f1) ≥ ((rd_T37 x7 x11).f0) then (some false) else (coppicelaw13_SparseRanges.l0 k x0 x1 x2 x7 false x10 (wrap64 (x11 + 1)))) else (none)) else (none)) else (coppicelaw13_SparseRanges.l0 k x0 x1 x2 x7 false x10 (wrap64 (x11 + 1))))))) else (none))) else (coppicelaw13_SparseRanges.l1 k x0 x1 x2 x9 x10 0)
def coppicelaw13_SparseRanges.l1 : Nat → List (S39) → Int → Int → Bool → Bool → Int → Option (Bool)
 | 0, _, _, _, _, _, _ => none
 | k + 1, x0, x1, x2, x9, x10, x12 => if x12 < (x0.length : Int) then (if x10 = true then (coppicelaw13_SparseRanges.l1 k x0 x1 x2 x9 true (wrap64 (x12 + 1))) else (if 0 ≤ x12 then (coppicelaw13_SparseRanges.l1 k x0 x1 x2 x9 (((rd_T39 x0 x12).f0) == (wrap64 (Int.tdiv x2 64))) (wrap64 (x12 + 1))) else (none))) else ((coppicelaw13_own.f x0).bind fun t168 => ((sparse_Read.f k t168 x1 x2 1).bind fun bt171 => (if (x9 == x10) = true then (if bt171.2 = 0 then (if (bt171.1.size : Int) = 1 then (if x9 = true then (some true) else (some (bt171.1.toList == ([0] : List UInt8)))) else (some false)) else (some false)) else (some false))))
end
def coppicelaw13_SparseRanges.f (k : Nat) (l0 : List (S39)) (a1 : Int) (a2 : Int) : Option (Bool) := (coppicelaw13_awake.f k).bind fun t137 => (if t137 = true then ((coppiceref13_Great.f k l0).bind fun t138 => (if t138 = true then (coppicelaw13_SparseRanges.j0 k l0 a1 a2 true) else (if a2 < 0 then (coppicelaw13_SparseRanges.j0 k l0 a1 a2 true) else (coppicelaw13_SparseRanges.j0 k l0 a1 a2 (decide (a2 ≥ a1)))))) else (some false))
theorem coppicelaw13_SparseRanges.mono_l : ∀ k, (∀ y0 y1 y2 y3, LeO (coppicelaw13_SparseRanges.j0 k y0 y1 y2 y3) (coppicelaw13_SparseRanges.j0 (k + 1) y0 y1 y2 y3)) ∧ (∀ y0 y1 y2 y3 y4 y5 y6, LeO (coppicelaw13_SparseRanges.l0 k y0 y1 y2 y3 y4 y5 y6) (coppicelaw13_SparseRanges.l0 (k + 1) y0 y1 y2 y3 y4 y5 y6)) ∧ (∀ y0 y1 y2 y3 y4 y5, LeO (coppicelaw13_SparseRanges.l1 k y0 y1 y2 y3 y4 y5) (coppicelaw13_SparseRanges.l1 (k + 1) y0 y1 y2 y3 y4 y5))
 | 0 => ⟨fun _ _ _ _ r h => by simp [coppicelaw13_SparseRanges.j0] at h, fun _ _ _ _ _ _ _ r h => by simp [coppicelaw13_SparseRanges.l0] at h, fun _ _ _ _ _ _ r h => by simp [coppicelaw13_SparseRanges.l1] at h⟩
 | k + 1 => by
  obtain ⟨ih0, ih1, ih2⟩ := coppicelaw13_SparseRanges.mono_l k
  refine ⟨?_, ?_, ?_⟩
  ·intro y0 y1 y2 y3
   unfold coppicelaw13_SparseRanges.j0
   repeat' first
   | (with_reducible exact ih0 _ _ _ _)
   | (with_reducible exact ih1 _ _ _ _ _ _ _)
   | (with_reducible exact ih2 _ _ _ _ _ _)
   | (with_reducible exact coppicelaw13_awake.mono _)
   | (with_reducible exact coppiceref13_Great.mono _ _)
   | (with_reducible exact sparse_Check.mono _ _ _)
   | (with_reducible exact sparse_Ranges.mono _ _ _)
   | (with_reducible exact sparse_Read.mono _ _ _ _ _)
   | (with_reducible exact LeO.refl _)
   | (with_reducible exact LeO.none _)
   | (with_reducible refine LeO.ite ?_ ?_)
   | (with_reducible refine LeO.bind ?_ (fun _ => ?_))
   | exact ih0 _ _ _ _
   | exact ih1 _ _ _ _ _ _ _
   | exact ih2 _ _ _ _ _ _
   | exact coppicelaw13_awake.mono _
   | exact coppiceref13_Great.mono _ _
   | exact sparse_Check.mono _ _ _
   | exact sparse_Ranges.mono _ _ _
   | exact sparse_Read.mono _ _ _ _ _
   | exact LeO.none _
   | refine LeO.ite ?_ ?_
   | refine LeO.bind ?_ (fun _ => ?_)
  ·intro y0 y1 y2 y3 y4 y5 y6
   unfold coppicelaw13_SparseRanges.l0
   repeat' first
   | (with_reducible exact ih0 _ _ _ _)
   | (with_reducible exact ih1 _ _ _ _ _ _ _)
   | (with_reducible exact ih2 _ _ _ _ _ _)
   | (with_reducible exact coppicelaw13_awake.mono _)
   | (with_reducible exact coppiceref13_Great.mono _ _)
   | (with_reducible exact sparse_Check.mono _ _ _)
   | (with_reducible exact sparse_Ranges.mono _ _ _)
   | (with_reducible exact sparse_Read.mono _ _ _ _ _)
   | (with_reducible exact LeO.refl _)
   | (with_reducible exact LeO.none _)
   | (with_reducible refine LeO.ite ?_ ?_)
   | (with_reducible refine LeO.bind ?_ (fun _ => ?_))
   | exact ih0 _ _ _ _
   | exact ih1 _ _ _ _ _ _ _
   | exact ih2 _ _ _ _ _ _
   | exact coppicelaw13_awake.mono _
   | exact coppiceref13_Great.mono _ _
   | exact sparse_Check.mono _ _ _
   | exact sparse_Ranges.mono _ _ _
   | exact sparse_Read.mono _ _ _ _ _
   | exact LeO.none _
   | refine LeO.ite ?_ ?_
   | refine LeO.bind ?_ (fun _ => ?_)
  ·intro y0 y1 y2 y3 y4 y5
   unfold coppicelaw13_SparseRanges.l1
   repeat' first
   | (with_reducible exact ih0 _ _ _ _)
   | (with_reducible exact ih1 _ _ _ _ _ _ _)
   | (with_reducible exact ih2 _ _ _ _ _ _)
   | (with_reducible exact coppicelaw13_awake.mono _)
   | (with_reducible exact coppiceref13_Great.mono _ _)
   | (with_reducible exact sparse_Check.mono _ _ _)
   | (with_reducible exact sparse_Ranges.mono _ _ _)
   | (with_reducible exact sparse_Read.mono _ _ _ _ _)
   | (with_reducible exact LeO.refl _)
   | (with_reducible exact LeO.none _)
   | (with_reducible refine LeO.ite ?_ ?_)
   | (with_reducible refine LeO.bind ?_ (fun _ => ?_))
   | exact ih0 _ _ _ _
   | exact ih1 _ _ _ _ _ _ _
   | exact ih2 _ _ _ _ _ _
   | exact coppicelaw13_awake.mono _
   | exact coppiceref13_Great.mono _ _
   | exact sparse_Check.mono _ _ _
   | exact sparse_Ranges.mono _ _ _
   | exact sparse_Read.mono _ _ _ _ _
   | exact LeO.none _
   | refine LeO.ite ?_ ?_
   | refine LeO.bind ?_ (fun _ => ?_)
theorem coppicelaw13_SparseRanges.mono : ∀ a0 a1 a2 k, LeO (coppicelaw13_SparseRanges.f k a0 a1 a2) (coppicelaw13_SparseRanges.f (k + 1) a0 a1 a2) := by
 intro a0 a1 a2 k
 obtain ⟨ih0, ih1, ih2⟩ := coppicelaw13_SparseRanges.mono_l k
 unfold coppicelaw13_SparseRanges.f
 repeat' first
   | (with_reducible exact ih0 _ _ _ _)
   | (with_reducible exact ih1 _ _ _ _ _ _ _)
   | (with_reducible exact ih2 _ _ _ _ _ _)
   | (with_reducible exact coppicelaw13_awake.mono _)
   | (with_reducible exact coppiceref13_Great.mono _ _)
   | (with_reducible exact sparse_Check.mono _ _ _)
   | (with_reducible exact sparse_Ranges.mono _ _ _)
   | (with_reducible exact sparse_Read.mono _ _ _ _ _)
   | (with_reducible exact LeO.refl _)
   | (with_reducible exact LeO.none _)
   | (with_reducible refine LeO.ite ?_ ?_)
   | (with_reducible refine LeO.bind ?_ (fun _ => ?_))
   | exact ih0 _ _ _ _
   | exact ih1 _ _ _ _ _ _ _
   | exact ih2 _ _ _ _ _ _
   | exact coppicelaw13_awake.mono _
   | exact coppiceref13_Great.mono _ _
   | exact sparse_Check.mono _ _ _
   | exact sparse_Ranges.mono _ _ _
   | exact sparse_Read.mono _ _ _ _ _
   | exact LeO.none _
   | refine LeO.ite ?_ ?_
   | refine LeO.bind ?_ (fun _ => ?_)
set_option maxHeartbeats 8000000 in
set_option maxRecDepth 100000 in
theorem coppicelaw13_SparseRanges.calls (k : Nat) (A0 : Option Addr) (c0 : Nat) (l0 : List (S39)) (a1 : Int) (a2 : Int) (r : Bool) (w : World) (hr0 : Kd.C k39 w A0 l0.length l0) (hc0 : l0.length ≤ c0) (h : coppicelaw13_SparseRanges.f k l0 a1 a2 = some r) :
  Calls Tryd.prog 4 #[.slice A0 l0.length c0, .int .i64 a1, .int .i64 a2] w fun e w' => e = .returned (.bool r) ∧ Below w.heap.size w w' := by
 have HR0 := Aside0.mk hr0
 have HC0 := Aside0.mk hc0
 clear hr0 hc0
 have HB := Aside0.mk (Below.refl w.heap.size w)
 have H : ((coppicelaw13_awake.f k).bind fun t137 => (if t137 = true then ((coppiceref13_Great.f k l0).bind fun t138 => (if t138 = true then (coppicelaw13_SparseRanges.j0 k l0 a1 a2 true) else (if a2 < 0 then (coppicelaw13_SparseRanges.j0 k l0 a1 a2 true) else (coppicelaw13_SparseRanges.j0 k l0 a1 a2 (decide (a2 ≥ a1)))))) else (some false))) = some r := h
 clear h
 replace H := Option.bind_eq_some_iff.mp H
 obtain ⟨t137, A40, H⟩ := H
 replace H : (if t137 = true then ((coppiceref13_Great.f k l0).bind fun t138 => (if t138 = true then (coppicelaw13_SparseRanges.j0 k l0 a1 a2 true) else (if a2 < 0 then (coppicelaw13_SparseRanges.j0 k l0 a1 a2 true) else (coppicelaw13_SparseRanges.j0 k l0 a1 a2 (decide (a2 ≥ a1)))))) else (some false)) = some r := H
 have A4 := Aside0.mk A40
 clear A40
 by_cases c5 : t137 = true
 ·subst c5
  have H1 : ((coppiceref13_Great.f k l0).bind fun t138 => (if t138 = true then (coppicelaw13_SparseRanges.j0 k l0 a1 a2 true) else (if a2 < 0 then (coppicelaw13_SparseRanges.j0 k l0 a1 a2 true) else (coppicelaw13_SparseRanges.j0 k l0 a1 a2 (decide (a2 ≥ a1)))))) = some r := by rw [if_pos rfl] at H; exact H
  clear H
  have H := H1
  clear H1
  have HC6 := Aside0.mk H
  clear H
  go_enter Tryd.func4, Tryd.ntmps4
  go_upto_region 3 with (first | (go_at_call 9; (with_reducible refine (coppicelaw13_awake.calls k  true _ A4.out).mono ?_); rintro e w7 ⟨rfl, hb⟩; have n0_ := Aside0.mk (below_step (by repeat (first | (with_reducible first | exact HB.out | apply below_alloc | apply pw_below_drewN | apply below_drew1) | exact HB.out)) hb); clear HB; have HB := n0_; clear n0_; (try clear hb); (try clear hb2); (try clear hk); (try clear hi)))
  repeat (go_quiet (first | (go_at_call 9; (with_reducible refine (coppicelaw13_awake.calls k  true _ A4.out).mono ?_); rintro e w7 ⟨rfl, hb⟩; have n0_ := Aside0.mk (below_step (by repeat (first | (with_reducible first | exact HB.out | apply below_alloc | apply pw_below_drewN | apply below_drew1) | exact HB.out)) hb); clear HB; have HB := n0_; clear n0_; (try clear hb); (try clear hb2); (try clear hk); (try clear hi))); go_upto_region 3 with (first | (go_at_call 9; (with_reducible refine (coppicelaw13_awake.calls k  true _ A4.out).mono ?_); rintro e w7 ⟨rfl, hb⟩; have n0_ := Aside0.mk (below_step (by repeat (first | (with_reducible first | exact HB.out | apply below_alloc | apply pw_below_drewN | apply below_drew1) | exact HB.out)) hb); clear HB; have HB := n0_; clear n0_; (try clear hb); (try clear hb2); (try clear hk); (try clear hi))))
  (try simp only [Act.put, List.setIfInBounds_toArray, List.set_cons_zero, List.set_cons_succ])
  go_cut [27] (fun v27 wc => ∃ (kq : Nat) (x27_5 : Bool), v27 = .bool x27_5 ∧ Aside0 (coppicelaw13_SparseRanges.j0 kq l0 a1 a2 x27_5 = some r) ∧ Aside0 (kq ≤ k) ∧ Aside0 (Below w.heap.size w wc))
  case first =>
   have H := HC6.out
   clear HC6
   replace H := Option.bind_eq_some_iff.mp H
   obtain ⟨t138, A80, H⟩ := H
   replace H : (if t138 = true then (coppicelaw13_SparseRanges.j0 k l0 a1 a2 true) else (if a2 < 0 then (coppicelaw13_SparseRanges.j0 k l0 a1 a2 true) else (coppicelaw13_SparseRanges.j0 k l0 a1 a2 (decide (a2 ≥ a1))))) = some r := H
   have A8 := Aside0.mk A80
   clear A80
   by_cases c9 : t138 = true
   ·subst c9
    have H1 : (coppicelaw13_SparseRanges.j0 k l0 a1 a2 true) = some r := by rw [if_pos rfl] at H; exact H
    clear H
    have H := H1
    clear H1
    have H' := Aside0.mk H
    clear H
    go_wp2_with (first | (go_at_call 10; (with_reducible refine (coppiceref13_Great.calls k _ _ l0 true _ ?side1 ?side2 A8.out).mono ?_); (case side1 => repeat (first | exact (Kd.C_below HR0.out HB.out) | (with_reducible refine Kd.C_alloc ?_ _) | (with_reducible refine Kd.C_drewN ?_ _) | (with_reducible refine Kd.C_drew ?_))); (case side2 => exact HC0.out); rintro e w' ⟨rfl, ⟨nd, rfl⟩⟩; (try first | exact ⟨rfl, _, World.drewN_drewN _ _ _⟩ | exact ⟨rfl, _, Eq.trans (World.drewN_drewN _ _ _) (congrArg (World.drewN _) (Nat.add_assoc _ _ _))⟩)))
    repeat (go_quiet (first | (go_at_call 10; (with_reducible refine (coppiceref13_Great.calls k _ _ l0 true _ ?side1 ?side2 A8.out).mono ?_); (case side1 => repeat (first | exact (Kd.C_below HR0.out HB.out) | (with_reducible refine Kd.C_alloc ?_ _) | (with_reducible refine Kd.C_drewN ?_ _) | (with_reducible refine Kd.C_drew ?_))); (case side2 => exact HC0.out); rintro e w' ⟨rfl, ⟨nd, rfl⟩⟩; (try first | exact ⟨rfl, _, World.drewN_drewN _ _ _⟩ | exact ⟨rfl, _, Eq.trans (World.drewN_drewN _ _ _) (congrArg (World.drewN _) (Nat.add_assoc _ _ _))⟩))); try go_wp2_with (first | (go_at_call 10; (with_reducible refine (coppiceref13_Great.calls k _ _ l0 true _ ?side1 ?side2 A8.out).mono ?_); (case side1 => repeat (first | exact (Kd.C_below HR0.out HB.out) | (with_reducible refine Kd.C_alloc ?_ _) | (with_reducible refine Kd.C_drewN ?_ _) | (with_reducible refine Kd.C_drew ?_))); (case side2 => exact HC0.out); rintro e w' ⟨rfl, ⟨nd, rfl⟩⟩; (try first | exact ⟨rfl, _, World.drewN_drewN _ _ _⟩ | exact ⟨rfl, _, Eq.trans (World.drewN_drewN _ _ _) (congrArg (World.drewN _) (Nat.add_assoc _ _ _))⟩))))
    go_meet
    case rel => exact ⟨_, (true), (by first | rfl | (simp; done) | (simp [*]; done)), H', ⟨by first | omega | exact Nat.le_refl _⟩, ⟨by repeat (first | (with_reducible first | exact HB.out | apply below_alloc | apply pw_below_drewN | apply below_drew1) | exact HB.out)⟩⟩
   ·replace c9 := Bool.eq_false_iff.mpr c9
    subst c9
    have H1 : (if a2 < 0 then (coppicelaw13_SparseRanges.j0 k l0 a1 a2 true) else (coppicelaw13_SparseRanges.j0 k l0 a1 a2 (decide (a2 ≥ a1)))) = some r := by rw [if_neg (show ¬ (false = true) by decide)] at H; exact H
    clear H
    have H := H1
    clear H1
    by_cases c10 : a2 < 0
    ·rw [if_pos c10] at H
     have c10b0 : decide (a2 < 0) = true := decide_eq_true c10
     clear c10
     (first | rw [c10b0] | (simp only [i64_w, i32_w]; rw [c10b0]) | skip)
     have H' := Aside0.mk H
     clear H
     go_wp2_with (first | (go_at_call 10; (with_reducible refine (coppiceref13_Great.calls k _ _ l0 false _ ?side1 ?side2 A8.out).mono ?_); (case side1 => repeat (first | exact (Kd.C_below HR0.out HB.out) | (with_reducible refine Kd.C_alloc ?_ _) | (with_reducible refine Kd.C_drewN ?_ _) | (with_reducible refine Kd.C_drew ?_))); (case side2 => exact HC0.out); rintro e w' ⟨rfl, ⟨nd, rfl⟩⟩; (try first | exact ⟨rfl, _, World.drewN_drewN _ _ _⟩ | exact ⟨rfl, _, Eq.trans (World.drewN_drewN _ _ _) (congrArg (World.drewN _) (Nat.add_assoc _ _ _))⟩)))
     repeat (go_quiet (first | (go_at_call 10; (with_reducible refine (coppiceref13_Great.calls k _ _ l0 false _ ?side1 ?side2 A8.out).mono ?_); (case side1 => repeat (first | exact (Kd.C_below HR0.out HB.out) | (with_reducible refine Kd.C_alloc ?_ _) | (with_reducible refine Kd.C_drewN ?_ _) | (with_reducible refine Kd.C_drew ?_))); (case side2 => exact HC0.out); rintro e w' ⟨rfl, ⟨nd, rfl⟩⟩; (try first | exact ⟨rfl, _, World.drewN_drewN _ _ _⟩ | exact ⟨rfl, _, Eq.trans (World.drewN_drewN _ _ _) (congrArg (World.drewN _) (Nat.add_assoc _ _ _))⟩))); try go_wp2_with (first | (go_at_call 10; (with_reducible refine (coppiceref13_Great.calls k _ _ l0 false _ ?side1 ?side2 A8.out).mono ?_); (case side1 => repeat (first | exact (Kd.C_below HR0.out HB.out) | (with_reducible refine Kd.C_alloc ?_ _) | (with_reducible refine Kd.C_drewN ?_ _) | (with_reducible refine Kd.C_drew ?_))); (case side2 => exact HC0.out); rintro e w' ⟨rfl, ⟨nd, rfl⟩⟩; (try first | exact ⟨rfl, _, World.drewN_drewN _ _ _⟩ | exact ⟨rfl, _, Eq.trans (World.drewN_drewN _ _ _) (congrArg (World.drewN _) (Nat.add_assoc _ _ _))⟩))))
     go_meet
     case rel => exact ⟨_, (true), (by first | rfl | (simp; done) | (simp [*]; done)), H', ⟨by first | omega | exact Nat.le_refl _⟩, ⟨by repeat (first | (with_reducible first | exact HB.out | apply below_alloc | apply pw_below_drewN | apply below_drew1) | exact HB.out)⟩⟩
    ·rw [if_neg c10] at H
     have c10b0 : decide (a2 < 0) = false := decide_eq_false c10
     clear c10
     (first | rw [c10b0] | (simp only [i64_w, i32_w]; rw [c10b0]) | skip)
     have H' := Aside0.mk H
     clear H
     go_wp2_with (first | (go_at_call 10; (with_reducible refine (coppiceref13_Great.calls k _ _ l0 false _ ?side1 ?side2 A8.out).mono ?_); (case side1 => repeat (first | exact (Kd.C_below HR0.out HB.out) | (with_reducible refine Kd.C_alloc ?_ _) | (with_reducible refine Kd.C_drewN ?_ _) | (with_reducible refine Kd.C_drew ?_))); (case side2 => exact HC0.out); rintro e w' ⟨rfl, ⟨nd, rfl⟩⟩; (try first | exact ⟨rfl, _, World.drewN_drewN _ _ _⟩ | exact ⟨rfl, _, Eq.trans (World.drewN_drewN _ _ _) (congrArg (World.drewN _) (Nat.add_assoc _ _ _))⟩)))
     repeat (go_quiet (first | (go_at_call 10; (with_reducible refine (coppiceref13_Great.calls k _ _ l0 false _ ?side1 ?side2 A8.out).mono ?_); (case side1 => repeat (first | exact (Kd.C_below HR0.out HB.out) | (with_reducible refine Kd.C_alloc ?_ _) | (with_reducible refine Kd.C_drewN ?_ _) | (with_reducible refine Kd.C_drew ?_))); (case side2 => exact HC0.out); rintro e w' ⟨rfl, ⟨nd, rfl⟩⟩; (try first | exact ⟨rfl, _, World.drewN_drewN _ _ _⟩ | exact ⟨rfl, _, Eq.trans (World.drewN_drewN _ _ _) (congrArg (World.drewN _) (Nat.add_assoc _ _ _))⟩))); try go_wp2_with (first | (go_at_call 10; (with_reducible refine (coppiceref13_Great.calls k _ _ l0 false _ ?side1 ?side2 A8.out).mono ?_); (case side1 => repeat (first | exact (Kd.C_below HR0.out HB.out) | (with_reducible refine Kd.C_alloc ?_ _) | (with_reducible refine Kd.C_drewN ?_ _) | (with_reducible refine Kd.C_drew ?_))); (case side2 => exact HC0.out); rintro e w' ⟨rfl, ⟨nd, rfl⟩⟩; (try first | exact ⟨rfl, _, World.drewN_drewN _ _ _⟩ | exact ⟨rfl, _, Eq.trans (World.drewN_drewN _ _ _) (congrArg (World.drewN _) (Nat.add_assoc _ _ _))⟩))))
     go_meet
     case rel => exact ⟨_, (decide (a2 ≥ a1)), (by first | rfl | (simp; done) | (simp [*]; done)), H', ⟨by first | omega | exact Nat.le_refl _⟩, ⟨by repeat (first | (with_reducible first | exact HB.out | apply below_alloc | apply pw_below_drewN | apply below_drew1) | exact HB.out)⟩⟩
  case rest =>
   clear HC6
   try clear c1
   try clear p2
   try clear c4
   try clear c5
   try clear c9
   try clear c10
   try clear c10b0
   obtain ⟨kq, x27_5, rfl, HA, HJ5, HB⟩ := hcut
   cases kq with
   | zero => exact absurd HA.out (by simp [coppicelaw13_SparseRanges.j0])
   | succ kj5 =>
    have H := HA.out
    clear HA
    simp only [coppicelaw13_SparseRanges.j0] at H
    by_cases c11 : x27_5 = true
    ·subst c11
     have H1 : (some true) = some r := by rw [if_pos rfl] at H; exact H
     clear H
     have H := H1
     clear H1
     obtain rfl := Option.some.inj H
     go_wp2
     repeat (go_quiet (fail); try go_wp2)
     go_ret
     exact ⟨by first | rfl | (simp [errW_none, errW_some] <;> rfl) | (simp [*, errW_none, errW_some] <;> rfl), by repeat (first | (with_reducible first | exact HB.out | apply below_alloc | apply pw_below_drewN | apply below_drew1) | exact HB.out)⟩
    ·replace c11 := Bool.eq_false_iff.mpr c11
     subst c11
     have H1 : ((coppicelaw13_own.f l0).bind fun t139 => ((sparse_Ranges.f kj5 t139 a1).bind fun bt142 => (if bt142.2 = 0 then (coppicelaw13_SparseRanges.l0 kj5 l0 a1 a2 bt142.1 false false 0) else (if (bt142.1.length : Int) = 0 then ((coppicelaw13_own.f l0).bind fun t146 => ((sparse_Check.f kj5 t146 a1).bind fun t149 => (some (t149 == bt142.2)))) else (some false))))) = some r := by rw [if_neg (show ¬ (false = true) by decide)] at H; exact H
     clear H
     have H := H1
     clear H1
     replace H := Option.bind_eq_some_iff.mp H
     obtain ⟨t139, A120, H⟩ := H
     replace H : ((sparse_Ranges.f kj5 t139 a1).bind fun bt142 => (if bt142.2 = 0 then (coppicelaw13_SparseRanges.l0 kj5 l0 a1 a2 bt142.1 false false 0) else (if (bt142.1.length : Int) = 0 then ((coppicelaw13_own.f l0).bind fun t146 => ((sparse_Check.f kj5 t146 a1).bind fun t149 => (some (t149 == bt142.2)))) else (some false)))) = some r := H
     have A12 := Aside0.mk A120
     clear A120
     replace H := Option.bind_eq_some_iff.mp H
     obtain ⟨⟨t142, t143⟩, A130, H⟩ := H
     replace H : (if t143 = 0 then (coppicelaw13_SparseRanges.l0 kj5 l0 a1 a2 t142 false false 0) else (if (t142.length : Int) = 0 then ((coppicelaw13_own.f l0).bind fun t146 => ((sparse_Check.f kj5 t146 a1).bind fun t149 => (some (t149 == t143)))) else (some false))) = some r := H
     have A13 := Aside0.mk A130
     clear A130
     by_cases c14 : t143 = 0
     ·rw [if_pos c14] at H
      have c14b0 : (t143 == 0) = true := beq_iff_eq.mpr c14
      have c14b1 : (t143 != 0) = false := bne_eq_false_iff_eq.mpr c14
      clear c14
      have H' := Aside0.mk H
      clear H
      go_wp2_with (first | (go_at_call 12; (with_reducible refine (coppicelaw13_own.calls _ _ l0 t139 _ ?side1 ?side2 A12.out).mono ?_); (case side1 => repeat (first | exact (Kd.C_below HR0.out HB.out) | (with_reducible refine Kd.C_alloc ?_ _) | (with_reducible refine Kd.C_drewN ?_ _) | (with_reducible refine Kd.C_drew ?_))); (case side2 => exact HC0.out); rintro e w15 ⟨v140, rfl, ho0, hb⟩; have n0_ := Aside0.mk (Kd.R_lower ho0 (below_size (by repeat (first | (with_reducible first | exact HB.out | apply below_alloc | apply pw_below_drewN | apply below_drew1) | exact HB.out)))); have n1_ := Aside0.mk (below_step (by repeat (first | (with_reducible first | exact HB.out | apply below_alloc | apply pw_below_drewN | apply below_drew1) | exact HB.out)) hb); clear HB; have HO141 := n0_; have HB := n1_; clear n0_ n1_; (try clear hb); (try clear hb2); (try clear hk); (try clear hi); (try clear ho0); obtain ⟨Ao16, co16, eo16⟩ := Kd.R_slice HO141.out; subst eo16) | (go_at_call 14; (with_reducible refine (sparse_Ranges.calls kj5 _ _ t139 a1 t142 t143 _ ?side1 ?side2 A13.out).mono ?_); (case side1 => repeat (first | exact (Kd.R_reads' HO141.out).2.2 | (with_reducible refine Kd.C_alloc ?_ _) | (with_reducible refine Kd.C_drewN ?_ _) | (with_reducible refine Kd.C_drew ?_))); (case side2 => exact (Kd.R_reads' HO141.out).2.1); rintro e w17 ⟨v144, rfl, ho0, hb⟩; have n0_ := Aside0.mk (Kd.R_below (by (with_reducible repeat (first | apply Kd.R_alloc | apply Kd.R_drewN | apply Kd.R_drew)); exact HO141.out) hb); have n1_ := Aside0.mk (Kd.R_lower ho0 (below_size (by repeat (first | (with_reducible first | exact HB.out | apply below_alloc | apply pw_below_drewN | apply below_drew1) | exact HB.out)))); have n2_ := Aside0.mk (below_step (by repeat (first | (with_reducible first | exact HB.out | apply below_alloc | apply pw_below_drewN | apply below_drew1) | exact HB.out)) hb); clear HO141; clear HB; have HO141 := n0_; have HO145 := n1_; have HB := n2_; clear n0_ n1_ n2_; (try clear hb); (try clear hb2); (try clear hk); (try clear hi); (try clear ho0)))
      repeat (go_quiet (first | (go_at_call 12; (fail_if_success (have := HO141)); (with_reducible refine (coppicelaw13_own.calls _ _ l0 t139 _ ?side1 ?side2 A12.out).mono ?_); (case side1 => repeat (first | exact (Kd.C_below HR0.out HB.out) | (with_reducible refine Kd.C_alloc ?_ _) | (with_reducible refine Kd.C_drewN ?_ _) | (with_reducible refine Kd.C_drew ?_))); (case side2 => exact HC0.out); rintro e w15 ⟨v140, rfl, ho0, hb⟩; have n0_ := Aside0.mk (Kd.R_lower ho0 (below_size (by repeat (first | (with_reducible first | exact HB.out | apply below_alloc | apply pw_below_drewN | apply below_drew1) | exact HB.out)))); have n1_ := Aside0.mk (below_step (by repeat (first | (with_reducible first | exact HB.out | apply below_alloc | apply pw_below_drewN | apply below_drew1) | exact HB.out)) hb); clear HB; have HO141 := n0_; have HB := n1_; clear n0_ n1_; (try clear hb); (try clear hb2); (try clear hk); (try clear hi); (try clear ho0); obtain ⟨Ao16, co16, eo16⟩ := Kd.R_slice HO141.out; subst eo16) | (go_at_call 14; (fail_if_success (have := HO145)); (with_reducible refine (sparse_Ranges.calls kj5 _ _ t139 a1 t142 t143 _ ?side1 ?side2 A13.out).mono ?_); (case side1 => repeat (first | exact (Kd.R_reads' HO141.out).2.2 | (with_reducible refine Kd.C_alloc ?_ _) | (with_reducible refine Kd.C_drewN ?_ _) | (with_reducible refine Kd.C_drew ?_))); (case side2 => exact (Kd.R_reads' HO141.out).2.1); rintro e w17 ⟨v144, rfl, ho0, hb⟩; have n0_ := Aside0.mk (Kd.R_below (by (with_reducible repeat (first | apply Kd.R_alloc | apply Kd.R_drewN | apply Kd.R_drew)); exact HO141.out) hb); have n1_ := Aside0.mk (Kd.R_lower ho0 (below_size (by repeat (first | (with_reducible first | exact HB.out | apply below_alloc | apply pw_below_drewN | apply below_drew1) | exact HB.out)))); have n2_ := Aside0.mk (below_step (by repeat (first | (with_reducible first | exact HB.out | apply below_alloc | apply pw_below_drewN | apply below_drew1) | exact HB.out)) hb); clear HO141; clear HB; have HO141 := n0_; have HO145 := n1_; have HB := n2_; clear n0_ n1_ n2_; (try clear hb); (try clear hb2); (try clear hk); (try clear hi); (try clear ho0))); try go_wp2_with (first | (go_at_call 12; (with_reducible refine (coppicelaw13_own.calls _ _ l0 t139 _ ?side1 ?side2 A12.out).mono ?_); (case side1 => repeat (first | exact (Kd.C_below HR0.out HB.out) | (with_reducible refine Kd.C_alloc ?_ _) | (with_reducible refine Kd.C_drewN ?_ _) | (with_reducible refine Kd.C_drew ?_))); (case side2 => exact HC0.out); rintro e w15 ⟨v140, rfl, ho0, hb⟩; have n0_ := Aside0.mk (Kd.R_lower ho0 (below_size (by repeat (first | (with_reducible first | exact HB.out | apply below_alloc | apply pw_below_drewN | apply below_drew1) | exact HB.out)))); have n1_ := Aside0.mk (below_step (by repeat (first | (with_reducible first | exact HB.out | apply below_alloc | apply pw_below_drewN | apply below_drew1) | exact HB.out)) hb); clear HB; have HO141 := n0_; have HB := n1_; clear n0_ n1_; (try clear hb); (try clear hb2); (try clear hk); (try clear hi); (try clear ho0); obtain ⟨Ao16, co16, eo16⟩ := Kd.R_slice HO141.out; subst eo16) | (go_at_call 14; (with_reducible refine (sparse_Ranges.calls kj5 _ _ t139 a1 t142 t143 _ ?side1 ?side2 A13.out).mono ?_); (case side1 => repeat (first | exact (Kd.R_reads' HO141.out).2.2 | (with_reducible refine Kd.C_alloc ?_ _) | (with_reducible refine Kd.C_drewN ?_ _) | (with_reducible refine Kd.C_drew ?_))); (case side2 => exact (Kd.R_reads' HO141.out).2.1); rintro e w17 ⟨v144, rfl, ho0, hb⟩; have n0_ := Aside0.mk (Kd.R_below (by (with_reducible repeat (first | apply Kd.R_alloc | apply Kd.R_drewN | apply Kd.R_drew)); exact HO141.out) hb); have n1_ := Aside0.mk (Kd.R_lower ho0 (below_size (by repeat (first | (with_reducible first | exact HB.out | apply below_alloc | apply pw_below_drewN | apply below_drew1) | exact HB.out)))); have n2_ := Aside0.mk (below_step (by repeat (first | (with_reducible first | exact HB.out | apply below_alloc | apply pw_below_drewN | apply below_drew1) | exact HB.out)) hb); clear HO141; clear HB; have HO141 := n0_; have HO145 := n1_; have HB := n2_; clear n0_ n1_ n2_; (try clear hb); (try clear hb2); (try clear hk); (try clear hi); (try clear ho0))))
      go_loopg [9, 11] kj5 (fun kq v9 v11 w' => ∃ (x9_2 : Bool) (x11_2 : Int), v9 = .bool x9_2 ∧ v11 = .int .i64 x11_2 ∧ Aside0 (coppicelaw13_SparseRanges.l0 kq l0 a1 a2 t142 x9_2 false x11_2 = some r) ∧ Aside0 (kq ≤ kj5) ∧ Aside0 (Kd.R k37 37 w' w.heap.size (fun _ => True) v144 t142) ∧ Aside0 (Below w.heap.size w w'))
      case atStart => exact ⟨(false), (0), (by first | rfl | (simp; done) | (simp [*]; done)), (by first | rfl | (simp; done) | (simp [*]; done)), H', ⟨Nat.le_refl _⟩, ⟨by (with_reducible repeat (first | apply Kd.R_alloc | apply Kd.R_drewN | apply Kd.R_drew)); exact HO145.out⟩, ⟨by repeat (first | (with_reducible first | exact HB.out | apply below_alloc | apply pw_below_drewN | apply below_drew1) | exact HB.out)⟩⟩
      case round =>
       clear H'
       try clear c1
       try clear p2
       try clear c4
       try clear c5
       try clear c9
       try clear c10
       try clear c10b0
       try clear c11
       try clear c14
       try clear c14b0
       try clear c14b1
       try clear p2
       obtain ⟨x9_2, x11_2, rfl, rfl, HA, HK2, HO_7, HB⟩ := hrel
       cases gk with
       | zero => exact absurd HA.out (by simp [coppicelaw13_SparseRanges.l0])
       | succ k2 =>
        have H := HA.out
        clear HA
        simp only [coppicelaw13_SparseRanges.l0] at H
        by_cases c18 : x11_2 < (t142.length : Int)
        ·rw [if_pos c18] at H
         have c18b0 : decide (x11_2 < (t142.length : Int)) = true := decide_eq_true c18
         clear c18
         by_cases c19 : x9_2 = true
         ·subst c19
          have H1 : (if 0 ≤ x11_2 then (if ((rd_T37 t142 x11_2).f0) ≥ ((rd_T37 t142 x11_2).f1) then (some false) else (if ((rd_T37 t142 x11_2).f1) > a1 then (some false) else (if x11_2 > 0 then (if 0 ≤ (wrap64 (x11_2 - 1)) then (if (wrap64 (x11_2 - 1)) < (t142.length : Int) then (if ((rd_T37 t142 (wrap64 (x11_2 - 1))).f1) ≥ ((rd_T37 t142 x11_2).f0) then (some false) else (coppicelaw13_SparseRanges.l0 k2 l0 a1 a2 t142 true false (wrap64 (x11_2 + 1)))) else (none)) else (none)) else (coppicelaw13_SparseRanges.l0 k2 l0 a1 a2 t142 true false (wrap64 (x11_2 + 1)))))) else (none)) = some r := by rw [if_pos rfl] at H; exact H
          clear H
          have H := H1
          clear H1
          by_cases c20 : 0 ≤ x11_2
          ·rw [if_pos c20] at H
           have c20b0 : decide (0 ≤ x11_2) = true := decide_eq_true c20
           clear c20
           by_cases c21 : ((rd_T37 t142 x11_2).f0) ≥ ((rd_T37 t142 x11_2).f1)
           ·rw [if_pos c21] at H
            have c21b0 : decide (((rd_T37 t142 x11_2).f1) ≤ ((rd_T37 t142 x11_2).f0)) = true := decide_eq_true c21
            clear c21
            obtain rfl := Option.some.inj H
            obtain ⟨Ao22, co22, eo22⟩ := Kd.R_slice HO_7.out
            subst eo22
            have p150 : 0 ≤ (x11_2 : Int) := of_decide_eq_true (by first | (with_reducible assumption) | assumption)
            have q150 : x11_2 < (t142.length : Int) := of_decide_eq_true (by first | (with_reducible assumption) | assumption)
            obtain ⟨ad150, e150, hx150_0, hx150_1⟩ := at_T37 (Kd.R_reads' HO_7.out).2.2 x11_2 p150 q150
            cases e150
            replace p150 := eq_true p150
            replace q150 := eq_true q150
            have p151 : 0 ≤ (x11_2 : Int) := of_decide_eq_true (by first | (with_reducible assumption) | assumption)
            have q151 : x11_2 < (t142.length : Int) := of_decide_eq_true (by first | (with_reducible assumption) | assumption)
            obtain ⟨ad151, e151, hx151_0, hx151_1⟩ := at_T37 (Kd.R_reads' HO_7.out).2.2 x11_2 p151 q151
            obtain rfl : ad150 = ad151 := (by injection e151)
            replace p151 := eq_true p151
            replace q151 := eq_true q151
            go_wp2
            repeat (go_quiet (fail); try go_wp2)
            go_ret
            exact ⟨by first | rfl | (simp [errW_none, errW_some] <;> rfl) | (simp [*, errW_none, errW_some] <;> rfl), by repeat (first | (with_reducible first | exact HB.out | apply below_alloc | apply pw_below_drewN | apply below_drew1) | exact HB.out)⟩
           ·rw [if_neg c21] at H
            have c21b0 : decide (((rd_T37 t142 x11_2).f1) ≤ ((rd_T37 t142 x11_2).f0)) = false := decide_eq_false c21
            clear c21
            by_cases c23 : ((rd_T37 t142 x11_2).f1) > a1
            ·rw [if_pos c23] at H
             have c23b0 : decide (a1 < ((rd_T37 t142 x11_2).f1)) = true := decide_eq_true c23
             clear c23
             obtain rfl := Option.some.inj H
             obtain ⟨Ao24, co24, eo24⟩ := Kd.R_slice HO_7.out
             subst eo24
             have p150 : 0 ≤ (x11_2 : Int) := of_decide_eq_true (by first | (with_reducible assumption) | assumption)
             have q150 : x11_2 < (t142.length : Int) := of_decide_eq_true (by first | (with_reducible assumption) | assumption)
             obtain ⟨ad150, e150, hx150_0, hx150_1⟩ := at_T37 (Kd.R_reads' HO_7.out).2.2 x11_2 p150 q150
             cases e150
             replace p150 := eq_true p150
             replace q150 := eq_true q150
             have p151 : 0 ≤ (x11_2 : Int) := of_decide_eq_true (by first | (with_reducible assumption) | assumption)
             have q151 : x11_2 < (t142.length : Int) := of_decide_eq_true (by first | (with_reducible assumption) | assumption)
             obtain ⟨ad151, e151, hx151_0, hx151_1⟩ := at_T37 (Kd.R_reads' HO_7.out).2.2 x11_2 p151 q151
             obtain rfl : ad150 = ad151 := (by injection e151)
             replace p151 := eq_true p151
             replace q151 := eq_true q151
             have p152 : 0 ≤ (x11_2 : Int) := of_decide_eq_true (by first | (with_reducible assumption) | assumption)
             have q152 : x11_2 < (t142.length : Int) := of_decide_eq_true (by first | (with_reducible assumption) | assumption)
             obtain ⟨ad152, e152, hx152_0, hx152_1⟩ := at_T37 (Kd.R_reads' HO_7.out).2.2 x11_2 p152 q152
             obtain rfl : ad150 = ad152 := (by injection e152)
             replace p152 := eq_true p152
             replace q152 := eq_true q152
             go_wp2
             repeat (go_quiet (fail); try go_wp2)
             go_ret
             exact ⟨by first | rfl | (simp [errW_none, errW_some] <;> rfl) | (simp [*, errW_none, errW_some] <;> rfl), by repeat (first | (with_reducible first | exact HB.out | apply below_alloc | apply pw_below_drewN | apply below_drew1) | exact HB.out)⟩
            ·rw [if_neg c23] at H
             have c23b0 : decide (a1 < ((rd_T37 t142 x11_2).f1)) = false := decide_eq_false c23
             clear c23
             by_cases c25 : x11_2 > 0
             ·rw [if_pos c25] at H
              have c25b0 : decide (0 < x11_2) = true := decide_eq_true c25
              clear c25
              obtain ⟨ji26, hji26⟩ : ∃ j_ : Int, (wrap64 (x11_2 - 1)) = j_ := ⟨_, rfl⟩
              replace H : (if 0 ≤ (ji26) then (if (ji26) < (t142.length : Int) then (if ((rd_T37 t142 (ji26)).f1) ≥ ((rd_T37 t142 x11_2).f0) then (some false) else (coppicelaw13_SparseRanges.l0 k2 l0 a1 a2 t142 true false (wrap64 (x11_2 + 1)))) else (none)) else (none)) = some r := by first | (rw [hji26] at H; exact H) | (simp only [hji26] at H ⊢; exact H)
              have hji26w : (IntKind.i64.wrap (x11_2 - 1)) = ji26 := (i64_w _).trans hji26
              by_cases c27 : 0 ≤ (ji26)
              ·rw [if_pos c27] at H
               have c27b0 : decide (0 ≤ (ji26)) = true := decide_eq_true c27
               clear c27
               by_cases c28 : (ji26) < (t142.length : Int)
               ·rw [if_pos c28] at H
                have c28b0 : decide ((ji26) < (t142.length : Int)) = true := decide_eq_true c28
                clear c28
                by_cases c29 : ((rd_T37 t142 (ji26)).f1) ≥ ((rd_T37 t142 x11_2).f0)
                ·rw [if_pos c29] at H
                 have c29b0 : decide (((rd_T37 t142 x11_2).f0) ≤ ((rd_T37 t142 (ji26)).f1)) = true := decide_eq_true c29
                 clear c29
                 obtain rfl := Option.some.inj H
                 obtain ⟨Ao30, co30, eo30⟩ := Kd.R_slice HO_7.out
                 subst eo30
                 have p150 : 0 ≤ (x11_2 : Int) := of_decide_eq_true (by first | (with_reducible assumption) | assumption)
                 have q150 : x11_2 < (t142.length : Int) := of_decide_eq_true (by first | (with_reducible assumption) | assumption)
                 obtain ⟨ad150, e150, hx150_0, hx150_1⟩ := at_T37 (Kd.R_reads' HO_7.out).2.2 x11_2 p150 q150
                 cases e150
                 replace p150 := eq_true p150
                 replace q150 := eq_true q150
                 have p151 : 0 ≤ (x11_2 : Int) := of_decide_eq_true (by first | (with_reducible assumption) | assumption)
                 have q151 : x11_2 < (t142.length : Int) := of_decide_eq_true (by first | (with_reducible assumption) | assumption)
                 obtain ⟨ad151, e151, hx151_0, hx151_1⟩ := at_T37 (Kd.R_reads' HO_7.out).2.2 x11_2 p151 q151
                 obtain rfl : ad150 = ad151 := (by injection e151)
                 replace p151 := eq_true p151
                 replace q151 := eq_true q151
                 have p152 : 0 ≤ (x11_2 : Int) := of_decide_eq_true (by first | (with_reducible assumption) | assumption)
                 have q152 : x11_2 < (t142.length : Int) := of_decide_eq_true (by first | (with_reducible assumption) | assumption)
                 obtain ⟨ad152, e152, hx152_0, hx152_1⟩ := at_T37 (Kd.R_reads' HO_7.out).2.2 x11_2 p152 q152
                 obtain rfl : ad150 = ad152 := (by injection e152)
                 replace p152 := eq_true p152
                 replace q152 := eq_true q152
                 have p153 : 0 ≤ ((ji26) : Int) := of_decide_eq_true (by first | (with_reducible assumption) | assumption)
                 have q153 : (ji26) < (t142.length : Int) := of_decide_eq_true (by first | (with_reducible assumption) | assumption)
                 obtain ⟨ad153, e153, hx153_0, hx153_1⟩ := at_T37 (Kd.R_reads' HO_7.out).2.2 (ji26) p153 q153
                 obtain rfl : ad150 = ad153 := (by injection e153)
                 replace p153 := eq_true p153
                 replace q153 := eq_true q153
                 have p154 : 0 ≤ (x11_2 : Int) := of_decide_eq_true (by first | (with_reducible assumption) | assumption)
                 have q154 : x11_2 < (t142.length : Int) := of_decide_eq_true (by first | (with_reducible assumption) | assumption)
                 obtain ⟨ad154, e154, hx154_0, hx154_1⟩ := at_T37 (Kd.R_reads' HO_7.out).2.2 x11_2 p154 q154
                 obtain rfl : ad150 = ad154 := (by injection e154)
                 replace p154 := eq_true p154
                 replace q154 := eq_true q154
                 go_wp2
                 repeat (go_quiet (fail); try go_wp2)
                 go_ret
                 exact ⟨by first | rfl | (simp [errW_none, errW_some] <;> rfl) | (simp only [← hji26]; first | rfl | (simp [errW_none, errW_some] <;> rfl)) | (simp [*, errW_none, errW_some] <;> rfl), by repeat (first | (with_reducible first | exact HB.out | apply below_alloc | apply pw_below_drewN | apply below_drew1) | exact HB.out)⟩
                ·rw [if_neg c29] at H
                 have c29b0 : decide (((rd_T37 t142 x11_2).f0) ≤ ((rd_T37 t142 (ji26)).f1)) = false := decide_eq_false c29
                 clear c29
                 have H' := Aside0.mk H
                 clear H
                 obtain ⟨Ao31, co31, eo31⟩ := Kd.R_slice HO_7.out
                 subst eo31
                 have p150 : 0 ≤ (x11_2 : Int) := of_decide_eq_true (by first | (with_reducible assumption) | assumption)
                 have q150 : x11_2 < (t142.length : Int) := of_decide_eq_true (by first | (with_reducible assumption) | assumption)
                 obtain ⟨ad150, e150, hx150_0, hx150_1⟩ := at_T37 (Kd.R_reads' HO_7.out).2.2 x11_2 p150 q150
                 cases e150
                 replace p150 := eq_true p150
                 replace q150 := eq_true q150
                 have p151 : 0 ≤ (x11_2 : Int) := of_decide_eq_true (by first | (with_reducible assumption) | assumption)
                 have q151 : x11_2 < (t142.length : Int) := of_decide_eq_true (by first | (with_reducible assumption) | assumption)
                 obtain ⟨ad151, e151, hx151_0, hx151_1⟩ := at_T37 (Kd.R_reads' HO_7.out).2.2 x11_2 p151 q151
                 obtain rfl : ad150 = ad151 := (by injection e151)
                 replace p151 := eq_true p151
                 replace q151 := eq_true q151
                 have p152 : 0 ≤ (x11_2 : Int) := of_decide_eq_true (by first | (with_reducible assumption) | assumption)
                 have q152 : x11_2 < (t142.length : Int) := of_decide_eq_true (by first | (with_reducible assumption) | assumption)
                 obtain ⟨ad152, e152, hx152_0, hx152_1⟩ := at_T37 (Kd.R_reads' HO_7.out).2.2 x11_2 p152 q152
                 obtain rfl : ad150 = ad152 := (by injection e152)
                 replace p152 := eq_true p152
                 replace q152 := eq_true q152
                 have p153 : 0 ≤ ((ji26) : Int) := of_decide_eq_true (by first | (with_reducible assumption) | assumption)
                 have q153 : (ji26) < (t142.length : Int) := of_decide_eq_true (by first | (with_reducible assumption) | assumption)
                 obtain ⟨ad153, e153, hx153_0, hx153_1⟩ := at_T37 (Kd.R_reads' HO_7.out).2.2 (ji26) p153 q153
                 obtain rfl : ad150 = ad153 := (by injection e153)
                 replace p153 := eq_true p153
                 replace q153 := eq_true q153
                 have p154 : 0 ≤ (x11_2 : Int) := of_decide_eq_true (by first | (with_reducible assumption) | assumption)
                 have q154 : x11_2 < (t142.length : Int) := of_decide_eq_true (by first | (with_reducible assumption) | assumption)
                 obtain ⟨ad154, e154, hx154_0, hx154_1⟩ := at_T37 (Kd.R_reads' HO_7.out).2.2 x11_2 p154 q154
                 obtain rfl : ad150 = ad154 := (by injection e154)
                 replace p154 := eq_true p154
                 replace q154 := eq_true q154
                 go_wp2
                 repeat (go_quiet (fail); try go_wp2)
                 go_roundg k2
                 case measure => have := HJ5.out; have := HK2.out; omega
                 case rel => exact ⟨(true), (wrap64 (x11_2 + 1)), (by first | rfl | (simp; done) | (simp [*]; done)), (by first | rfl | (simp; done) | (simp [*]; done)), H', ⟨by have := HJ5.out; have := HK2.out; omega⟩, ⟨by (with_reducible repeat (first | apply Kd.R_alloc | apply Kd.R_drewN | apply Kd.R_drew)); exact HO_7.out⟩, ⟨by repeat (first | (with_reducible first | exact HB.out | apply below_alloc | apply pw_below_drewN | apply below_drew1) | exact HB.out)⟩⟩
               ·rw [if_neg c28] at H
                exact absurd H (by simp)
              ·rw [if_neg c27] at H
               exact absurd H (by simp)
             ·rw [if_neg c25] at H
              have c25b0 : decide (0 < x11_2) = false := decide_eq_false c25
              clear c25
              have H' := Aside0.mk H
              clear H
              obtain ⟨Ao32, co32, eo32⟩ := Kd.R_slice HO_7.out
              subst eo32
              have p150 : 0 ≤ (x11_2 : Int) := of_decide_eq_true (by first | (with_reducible assumption) | assumption)
              have q150 : x11_2 < (t142.length : Int) := of_decide_eq_true (by first | (with_reducible assumption) | assumption)
              obtain ⟨ad150, e150, hx150_0, hx150_1⟩ := at_T37 (Kd.R_reads' HO_7.out).2.2 x11_2 p150 q150
              cases e150
              replace p150 := eq_true p150
              replace q150 := eq_true q150
              have p151 : 0 ≤ (x11_2 : Int) := of_decide_eq_true (by first | (with_reducible assumption) | assumption)
              have q151 : x11_2 < (t142.length : Int) := of_decide_eq_true (by first | (with_reducible assumption) | assumption)
              obtain ⟨ad151, e151, hx151_0, hx151_1⟩ := at_T37 (Kd.R_reads' HO_7.out).2.2 x11_2 p151 q151
              obtain rfl : ad150 = ad151 := (by injection e151)
              replace p151 := eq_true p151
              replace q151 := eq_true q151
              have p152 : 0 ≤ (x11_2 : Int) := of_decide_eq_true (by first | (with_reducible assumption) | assumption)
              have q152 : x11_2 < (t142.length : Int) := of_decide_eq_true (by first | (with_reducible assumption) | assumption)
              obtain ⟨ad152, e152, hx152_0, hx152_1⟩ := at_T37 (Kd.R_reads' HO_7.out).2.2 x11_2 p152 q152
              obtain rfl : ad150 = ad152 := (by injection e152)
              replace p152 := eq_true p152
              replace q152 := eq_true q152
              go_wp2
              repeat (go_quiet (fail); try go_wp2)
              go_roundg k2
              case measure => have := HJ5.out; have := HK2.out; omega
              case rel => exact ⟨(true), (wrap64 (x11_2 + 1)), (by first | rfl | (simp; done) | (simp [*]; done)), (by first | rfl | (simp; done) | (simp [*]; done)), H', ⟨by have := HJ5.out; have := HK2.out; omega⟩, ⟨by (with_reducible repeat (first | apply Kd.R_alloc | apply Kd.R_drewN | apply Kd.R_drew)); exact HO_7.out⟩, ⟨by repeat (first | (with_reducible first | exact HB.out | apply below_alloc | apply pw_below_drewN | apply below_drew1) | exact HB.out)⟩⟩
          ·rw [if_neg c20] at H
           exact absurd H (by simp)
         ·replace c19 := Bool.eq_false_iff.mpr c19
          subst c19
          have H1 : (if 0 ≤ x11_2 then (if a2 ≥ ((rd_T37 t142 x11_2).f0) then (if ((rd_T37 t142 x11_2).f0) ≥ ((rd_T37 t142 x11_2).f1) then (some false) else (if ((rd_T37 t142 x11_2).f1) > a1 then (some false) else (if x11_2 > 0 then (if 0 ≤ (wrap64 (x11_2 - 1)) then (if (wrap64 (x11_2 - 1)) < (t142.length : Int) then (if ((rd_T37 t142 (wrap64 (x11_2 - 1))).f1) ≥ ((rd_T37 t142 x11_2).f0) then (some false) else (coppicelaw13_SparseRanges.l0 k2 l0 a1 a2 t142 (decide (a2 < ((rd_T37 t142 x11_2).f1))) false (wrap64 (x11_2 + 1)))) else (none)) else (none)) else (coppicelaw13_SparseRanges.l0 k2 l0 a1 a2 t142 (decide (a2 < ((rd_T37 t142 x11_2).f1))) false (wrap64 (x11_2 + 1)))))) else (if ((rd_T37 t142 x11_2).f0) ≥ ((rd_T37 t142 x11_2).f1) then (some false) else (if ((rd_T37 t142 x11_2).f1) > a1 then (some false) else (if x11_2 > 0 then (if 0 ≤ (wrap64 (x11_2 - 1)) then (if (wrap64 (x11_2 - 1)) < (t142.length : Int) then (if ((rd_T37 t142 (wrap64 (x11_2 - 1))).f1) ≥ ((rd_T37 t142 x11_2).f0) then (some false) else (coppicelaw13_SparseRanges.l0 k2 l0 a1 a2 t142 false false (wrap64 (x11_2 + 1)))) else (none)) else (none)) else (coppicelaw13_SparseRanges.l0 k2 l0 a1 a2 t142 false false (wrap64 (x11_2 + 1))))))) else (none)) = some r := by rw [if_neg (show ¬ (false = true) by decide)] at H; exact H
          clear H
          have H := H1
          clear H1
          by_cases c33 : 0 ≤ x11_2
          ·rw [if_pos c33] at H
           have c33b0 : decide (0 ≤ x11_2) = true := decide_eq_true c33
           clear c33
           by_cases c34 : a2 ≥ ((rd_T37 t142 x11_2).f0)
           ·rw [if_pos c34] at H
            have c34b0 : decide (((rd_T37 t142 x11_2).f0) ≤ a2) = true := decide_eq_true c34
            clear c34
            by_cases c35 : ((rd_T37 t142 x11_2).f0) ≥ ((rd_T37 t142 x11_2).f1)
            ·rw [if_pos c35] at H
             have c35b0 : decide (((rd_T37 t142 x11_2).f1) ≤ ((rd_T37 t142 x11_2).f0)) = true := decide_eq_true c35
             clear c35
             obtain rfl := Option.some.inj H
             obtain ⟨Ao36, co36, eo36⟩ := Kd.R_slice HO_7.out
             subst eo36
             have p155 : 0 ≤ (x11_2 : Int) := of_decide_eq_true (by first | (with_reducible assumption) | assumption)
             have q155 : x11_2 < (t142.length : Int) := of_decide_eq_true (by first | (with_reducible assumption) | assumption)
             obtain ⟨ad155, e155, hx155_0, hx155_1⟩ := at_T37 (Kd.R_reads' HO_7.out).2.2 x11_2 p155 q155
             cases e155
             replace p155 := eq_true p155
             replace q155 := eq_true q155
             have p156 : 0 ≤ (x11_2 : Int) := of_decide_eq_true (by first | (with_reducible assumption) | assumption)
             have q156 : x11_2 < (t142.length : Int) := of_decide_eq_true (by first | (with_reducible assumption) | assumption)
             obtain ⟨ad156, e156, hx156_0, hx156_1⟩ := at_T37 (Kd.R_reads' HO_7.out).2.2 x11_2 p156 q156
             obtain rfl : ad155 = ad156 := (by injection e156)
             replace p156 := eq_true p156
             replace q156 := eq_true q156
             have p157 : 0 ≤ (x11_2 : Int) := of_decide_eq_true (by first | (with_reducible assumption) | assumption)
             have q157 : x11_2 < (t142.length : Int) := of_decide_eq_true (by first | (with_reducible assumption) | assumption)
             obtain ⟨ad157, e157, hx157_0, hx157_1⟩ := at_T37 (Kd.R_reads' HO_7.out).2.2 x11_2 p157 q157
             obtain rfl : ad155 = ad157 := (by injection e157)
             replace p157 := eq_true p157
             replace q157 := eq_true q157
             have p158 : 0 ≤ (x11_2 : Int) := of_decide_eq_true (by first | (with_reducible assumption) | assumption)
             have q158 : x11_2 < (t142.length : Int) := of_decide_eq_true (by first | (with_reducible assumption) | assumption)
             obtain ⟨ad158, e158, hx158_0, hx158_1⟩ := at_T37 (Kd.R_reads' HO_7.out).2.2 x11_2 p158 q158
             obtain rfl : ad155 = ad158 := (by injection e158)
             replace p158 := eq_true p158
             replace q158 := eq_true q158
             go_wp2
             repeat (go_quiet (fail); try go_wp2)
             go_ret
             exact ⟨by first | rfl | (simp [errW_none, errW_some] <;> rfl) | (simp [*, errW_none, errW_some] <;> rfl), by repeat (first | (with_reducible first | exact HB.out | apply below_alloc | apply pw_below_drewN | apply below_drew1) | exact HB.out)⟩
            ·rw [if_neg c35] at H
             have c35b0 : decide (((rd_T37 t142 x11_2).f1) ≤ ((rd_T37 t142 x11_2).f0)) = false := decide_eq_false c35
             clear c35
             by_cases c37 : ((rd_T37 t142 x11_2).f1) > a1
             ·rw [if_pos c37] at H
              have c37b0 : decide (a1 < ((rd_T37 t142 x11_2).f1)) = true := decide_eq_true c37
              clear c37
              obtain rfl := Option.some.inj H
              obtain ⟨Ao38, co38, eo38⟩ := Kd.R_slice HO_7.out
              subst eo38
              have p155 : 0 ≤ (x11_2 : Int) := of_decide_eq_true (by first | (with_reducible assumption) | assumption)
              have q155 : x11_2 < (t142.length : Int) := of_decide_eq_true (by first | (with_reducible assumption) | assumption)
              obtain ⟨ad155, e155, hx155_0, hx155_1⟩ := at_T37 (Kd.R_reads' HO_7.out).2.2 x11_2 p155 q155
              cases e155
              replace p155 := eq_true p155
              replace q155 := eq_true q155
              have p156 : 0 ≤ (x11_2 : Int) := of_decide_eq_true (by first | (with_reducible assumption) | assumption)
              have q156 : x11_2 < (t142.length : Int) := of_decide_eq_true (by first | (with_reducible assumption) | assumption)
              obtain ⟨ad156, e156, hx156_0, hx156_1⟩ := at_T37 (Kd.R_reads' HO_7.out).2.2 x11_2 p156 q156
              obtain rfl : ad155 = ad156 := (by injection e156)
              replace p156 := eq_true p156
              replace q156 := eq_true q156
              have p157 : 0 ≤ (x11_2 : Int) := of_decide_eq_true (by first | (with_reducible assumption) | assumption)
              have q157 : x11_2 < (t142.length : Int) := of_decide_eq_true (by first | (with_reducible assumption) | assumption)
              obtain ⟨ad157, e157, hx157_0, hx157_1⟩ := at_T37 (Kd.R_reads' HO_7.out).2.2 x11_2 p157 q157
              obtain rfl : ad155 = ad157 := (by injection e157)
              replace p157 := eq_true p157
              replace q157 := eq_true q157
              have p158 : 0 ≤ (x11_2 : Int) := of_decide_eq_true (by first | (with_reducible assumption) | assumption)
              have q158 : x11_2 < (t142.length : Int) := of_decide_eq_true (by first | (with_reducible assumption) | assumption)
              obtain ⟨ad158, e158, hx158_0, hx158_1⟩ := at_T37 (Kd.R_reads' HO_7.out).2.2 x11_2 p158 q158
              obtain rfl : ad155 = ad158 := (by injection e158)
              replace p158 := eq_true p158
              replace q158 := eq_true q158
              have p159 : 0 ≤ (x11_2 : Int) := of_decide_eq_true (by first | (with_reducible assumption) | assumption)
              have q159 : x11_2 < (t142.length : Int) := of_decide_eq_true (by first | (with_reducible assumption) | assumption)
              obtain ⟨ad159, e159, hx159_0, hx159_1⟩ := at_T37 (Kd.R_reads' HO_7.out).2.2 x11_2 p159 q159
              obtain rfl : ad155 = ad159 := (by injection e159)
              replace p159 := eq_true p159
              replace q159 := eq_true q159
              go_wp2
              repeat (go_quiet (fail); try go_wp2)
              go_ret
              exact ⟨by first | rfl | (simp [errW_none, errW_some] <;> rfl) | (simp [*, errW_none, errW_some] <;> rfl), by repeat (first | (with_reducible first | exact HB.out | apply below_alloc | apply pw_below_drewN | apply below_drew1) | exact HB.out)⟩
             ·rw [if_neg c37] at H
              have c37b0 : decide (a1 < ((rd_T37 t142 x11_2).f1)) = false := decide_eq_false c37
              clear c37
              by_cases c39 : x11_2 > 0
              ·rw [if_pos c39] at H
               have c39b0 : decide (0 < x11_2) = true := decide_eq_true c39
               clear c39
               obtain ⟨ji40, hji40⟩ : ∃ j_ : Int, (wrap64 (x11_2 - 1)) = j_ := ⟨_, rfl⟩
               replace H : (if 0 ≤ (ji40) then (if (ji40) < (t142.length : Int) then (if ((rd_T37 t142 (ji40)).f1) ≥ ((rd_T37 t142 x11_2).f0) then (some false) else (coppicelaw13_SparseRanges.l0 k2 l0 a1 a2 t142 (decide (a2 < ((rd_T37 t142 x11_2).f1))) false (wrap64 (x11_2 + 1)))) else (none)) else (none)) = some r := by first | (rw [hji40] at H; exact H) | (simp only [hji40] at H ⊢; exact H)
               have hji40w : (IntKind.i64.wrap (x11_2 - 1)) = ji40 := (i64_w _).trans hji40
               by_cases c41 : 0 ≤ (ji40)
               ·rw [if_pos c41] at H
                have c41b0 : decide (0 ≤ (ji40)) = true := decide_eq_true c41
                clear c41
                by_cases c42 : (ji40) < (t142.length : Int)
                ·rw [if_pos c42] at H
                 have c42b0 : decide ((ji40) < (t142.length : Int)) = true := decide_eq_true c42
                 clear c42
                 by_cases c43 : ((rd_T37 t142 (ji40)).f1) ≥ ((rd_T37 t142 x11_2).f0)
                 ·rw [if_pos c43] at H
                  have c43b0 : decide (((rd_T37 t142 x11_2).f0) ≤ ((rd_T37 t142 (ji40)).f1)) = true := decide_eq_true c43
                  clear c43
                  obtain rfl := Option.some.inj H
                  obtain ⟨Ao44, co44, eo44⟩ := Kd.R_slice HO_7.out
                  subst eo44
                  have p155 : 0 ≤ (x11_2 : Int) := of_decide_eq_true (by first | (with_reducible assumption) | assumption)
                  have q155 : x11_2 < (t142.length : Int) := of_decide_eq_true (by first | (with_reducible assumption) | assumption)
                  obtain ⟨ad155, e155, hx155_0, hx155_1⟩ := at_T37 (Kd.R_reads' HO_7.out).2.2 x11_2 p155 q155
                  cases e155
                  replace p155 := eq_true p155
                  replace q155 := eq_true q155
                  have p156 : 0 ≤ (x11_2 : Int) := of_decide_eq_true (by first | (with_reducible assumption) | assumption)
                  have q156 : x11_2 < (t142.length : Int) := of_decide_eq_true (by first | (with_reducible assumption) | assumption)
                  obtain ⟨ad156, e156, hx156_0, hx156_1⟩ := at_T37 (Kd.R_reads' HO_7.out).2.2 x11_2 p156 q156
                  obtain rfl : ad155 = ad156 := (by injection e156)
                  replace p156 := eq_true p156
                  replace q156 := eq_true q156
                  have p157 : 0 ≤ (x11_2 : Int) := of_decide_eq_true (by first | (with_reducible assumption) | assumption)
                  have q157 : x11_2 < (t142.length : Int) := of_decide_eq_true (by first | (with_reducible assumption) | assumption)
                  obtain ⟨ad157, e157, hx157_0, hx157_1⟩ := at_T37 (Kd.R_reads' HO_7.out).2.2 x11_2 p157 q157
                  obtain rfl : ad155 = ad157 := (by injection e157)
                  replace p157 := eq_true p157
                  replace q157 := eq_true q157
                  have p158 : 0 ≤ (x11_2 : Int) := of_decide_eq_true (by first | (with_reducible assumption) | assumption)
                  have q158 : x11_2 < (t142.length : Int) := of_decide_eq_true (by first | (with_reducible assumption) | assumption)
                  obtain ⟨ad158, e158, hx158_0, hx158_1⟩ := at_T37 (Kd.R_reads' HO_7.out).2.2 x11_2 p158 q158
                  obtain rfl : ad155 = ad158 := (by injection e158)
                  replace p158 := eq_true p158
                  replace q158 := eq_true q158
                  have p159 : 0 ≤ (x11_2 : Int) := of_decide_eq_true (by first | (with_reducible assumption) | assumption)
                  have q159 : x11_2 < (t142.length : Int) := of_decide_eq_true (by first | (with_reducible assumption) | assumption)
                  obtain ⟨ad159, e159, hx159_0, hx159_1⟩ := at_T37 (Kd.R_reads' HO_7.out).2.2 x11_2 p159 q159
                  obtain rfl : ad155 = ad159 := (by injection e159)
                  replace p159 := eq_true p159
                  replace q159 := eq_true q159
                  have p160 : 0 ≤ ((ji40) : Int) := of_decide_eq_true (by first | (with_reducible assumption) | assumption)
                  have q160 : (ji40) < (t142.length : Int) := of_decide_eq_true (by first | (with_reducible assumption) | assumption)
                  obtain ⟨ad160, e160, hx160_0, hx160_1⟩ := at_T37 (Kd.R_reads' HO_7.out).2.2 (ji40) p160 q160
                  obtain rfl : ad155 = ad160 := (by injection e160)
                  replace p160 := eq_true p160
                  replace q160 := eq_true q160
                  have p161 : 0 ≤ (x11_2 : Int) := of_decide_eq_true (by first | (with_reducible assumption) | assumption)
                  have q161 : x11_2 < (t142.length : Int) := of_decide_eq_true (by first | (with_reducible assumption) | assumption)
                  obtain ⟨ad161, e161, hx161_0, hx161_1⟩ := at_T37 (Kd.R_reads' HO_7.out).2.2 x11_2 p161 q161
                  obtain rfl : ad155 = ad161 := (by injection e161)
                  replace p161 := eq_true p161
                  replace q161 := eq_true q161
                  go_wp2
                  repeat (go_quiet (fail); try go_wp2)
                  go_ret
                  exact ⟨by first | rfl | (simp [errW_none, errW_some] <;> rfl) | (simp only [← hji40]; first | rfl | (simp [errW_none, errW_some] <;> rfl)) | (simp [*, errW_none, errW_some] <;> rfl), by repeat (first | (with_reducible first | exact HB.out | apply below_alloc | apply pw_below_drewN | apply below_drew1) | exact HB.out)⟩
                 ·rw [if_neg c43] at H
                  have c43b0 : decide (((rd_T37 t142 x11_2).f0) ≤ ((rd_T37 t142 (ji40)).f1)) = false := decide_eq_false c43
                  clear c43
                  have H' := Aside0.mk H
                  clear H
                  obtain ⟨Ao45, co45, eo45⟩ := Kd.R_slice HO_7.out
                  subst eo45
                  have p155 : 0 ≤ (x11_2 : Int) := of_decide_eq_true (by first | (with_reducible assumption) | assumption)
                  have q155 : x11_2 < (t142.length : Int) := of_decide_eq_true (by first | (with_reducible assumption) | assumption)
                  obtain ⟨ad155, e155, hx155_0, hx155_1⟩ := at_T37 (Kd.R_reads' HO_7.out).2.2 x11_2 p155 q155
                  cases e155
                  replace p155 := eq_true p155
                  replace q155 := eq_true q155
                  have p156 : 0 ≤ (x11_2 : Int) := of_decide_eq_true (by first | (with_reducible assumption) | assumption)
                  have q156 : x11_2 < (t142.length : Int) := of_decide_eq_true (by first | (with_reducible assumption) | assumption)
                  obtain ⟨ad156, e156, hx156_0, hx156_1⟩ := at_T37 (Kd.R_reads' HO_7.out).2.2 x11_2 p156 q156
                  obtain rfl : ad155 = ad156 := (by injection e156)
                  replace p156 := eq_true p156
                  replace q156 := eq_true q156
                  have p157 : 0 ≤ (x11_2 : Int) := of_decide_eq_true (by first | (with_reducible assumption) | assumption)
                  have q157 : x11_2 < (t142.length : Int) := of_decide_eq_true (by first | (with_reducible assumption) | assumption)
                  obtain ⟨ad157, e157, hx157_0, hx157_1⟩ := at_T37 (Kd.R_reads' HO_7.out).2.2 x11_2 p157 q157
                  obtain rfl : ad155 = ad157 := (by injection e157)
                  replace p157 := eq_true p157
                  replace q157 := eq_true q157
                  have p158 : 0 ≤ (x11_2 : Int) := of_decide_eq_true (by first | (with_reducible assumption) | assumption)
                  have q158 : x11_2 < (t142.length : Int) := of_decide_eq_true (by first | (with_reducible assumption) | assumption)
                  obtain ⟨ad158, e158, hx158_0, hx158_1⟩ := at_T37 (Kd.R_reads' HO_7.out).2.2 x11_2 p158 q158
                  obtain rfl : ad155 = ad158 := (by injection e158)
                  replace p158 := eq_true p158
                  replace q158 := eq_true q158
                  have p159 : 0 ≤ (x11_2 : Int) := of_decide_eq_true (by first | (with_reducible assumption) | assumption)
                  have q159 : x11_2 < (t142.length : Int) := of_decide_eq_true (by first | (with_reducible assumption) | assumption)
                  obtain ⟨ad159, e159, hx159_0, hx159_1⟩ := at_T37 (Kd.R_reads' HO_7.out).2.2 x11_2 p159 q159
                  obtain rfl : ad155 = ad159 := (by injection e159)
                  replace p159 := eq_true p159
                  replace q159 := eq_true q159
                  have p160 : 0 ≤ ((ji40) : Int) := of_decide_eq_true (by first | (with_reducible assumption) | assumption)
                  have q160 : (ji40) < (t142.length : Int) := of_decide_eq_true (by first | (with_reducible assumption) | assumption)
                  obtain ⟨ad160, e160, hx160_0, hx160_1⟩ := at_T37 (Kd.R_reads' HO_7.out).2.2 (ji40) p160 q160
                  obtain rfl : ad155 = ad160 := (by injection e160)
                  replace p160 := eq_true p160
                  replace q160 := eq_true q160
                  have p161 : 0 ≤ (x11_2 : Int) := of_decide_eq_true (by first | (with_reducible assumption) | assumption)
                  have q161 : x11_2 < (t142.length : Int) := of_decide_eq_true (by first | (with_reducible assumption) | assumption)
                  obtain ⟨ad161, e161, hx161_0, hx161_1⟩ := at_T37 (Kd.R_reads' HO_7.out).2.2 x11_2 p161 q161
                  obtain rfl : ad155 = ad161 := (by injection e161)
                  replace p161 := eq_true p161
                  replace q161 := eq_true q161
                  go_wp2
                  repeat (go_quiet (fail); try go_wp2)
                  go_roundg k2
                  case measure => have := HJ5.out; have := HK2.out; omega
                  case rel => exact ⟨(decide (a2 < ((rd_T37 t142 x11_2).f1))), (wrap64 (x11_2 + 1)), (by first | rfl | (simp; done) | (simp [*]; done)), (by first | rfl | (simp; done) | (simp [*]; done)), H', ⟨by have := HJ5.out; have := HK2.out; omega⟩, ⟨by (with_reducible repeat (first | apply Kd.R_alloc | apply Kd.R_drewN | apply Kd.R_drew)); exact HO_7.out⟩, ⟨by repeat (first | (with_reducible first | exact HB.out | apply below_alloc | apply pw_below_drewN | apply below_drew1) | exact HB.out)⟩⟩
                ·rw [if_neg c42] at H
                 exact absurd H (by simp)
               ·rw [if_neg c41] at H
                exact absurd H (by simp)
              ·rw [if_neg c39] at H
               have c39b0 : decide (0 < x11_2) = false := decide_eq_false c39
               clear c39
               have H' := Aside0.mk H
               clear H
               obtain ⟨Ao46, co46, eo46⟩ := Kd.R_slice HO_7.out
               subst eo46
               have p155 : 0 ≤ (x11_2 : Int) := of_decide_eq_true (by first | (with_reducible assumption) | assumption)
               have q155 : x11_2 < (t142.length : Int) := of_decide_eq_true (by first | (with_reducible assumption) | assumption)
               obtain ⟨ad155, e155, hx155_0, hx155_1⟩ := at_T37 (Kd.R_reads' HO_7.out).2.2 x11_2 p155 q155
               cases e155
               replace p155 := eq_true p155
               replace q155 := eq_true q155
               have p156 : 0 ≤ (x11_2 : Int) := of_decide_eq_true (by first | (with_reducible assumption) | assumption)
               have q156 : x11_2 < (t142.length : Int) := of_decide_eq_true (by first | (with_reducible assumption) | assumption)
               obtain ⟨ad156, e156, hx156_0, hx156_1⟩ := at_T37 (Kd.R_reads' HO_7.out).2.2 x11_2 p156 q156
               obtain rfl : ad155 = ad156 := (by injection e156)
               replace p156 := eq_true p156
               replace q156 := eq_true q156
               have p157 : 0 ≤ (x11_2 : Int) := of_decide_eq_true (by first | (with_reducible assumption) | assumption)
               have q157 : x11_2 < (t142.length : Int) := of_decide_eq_true (by first | (with_reducible assumption) | assumption)
               obtain ⟨ad157, e157, hx157_0, hx157_1⟩ := at_T37 (Kd.R_reads' HO_7.out).2.2 x11_2 p157 q157
               obtain rfl : ad155 = ad157 := (by injection e157)
               replace p157 := eq_true p157
               replace q157 := eq_true q157
               have p158 : 0 ≤ (x11_2 : Int) := of_decide_eq_true (by first | (with_reducible assumption) | assumption)
               have q158 : x11_2 < (t142.length : Int) := of_decide_eq_true (by first | (with_reducible assumption) | assumption)
               obtain ⟨ad158, e158, hx158_0, hx158_1⟩ := at_T37 (Kd.R_reads' HO_7.out).2.2 x11_2 p158 q158
               obtain rfl : ad155 = ad158 := (by injection e158)
               replace p158 := eq_true p158
               replace q158 := eq_true q158
               have p159 : 0 ≤ (x11_2 : Int) := of_decide_eq_true (by first | (with_reducible assumption) | assumption)
               have q159 : x11_2 < (t142.length : Int) := of_decide_eq_true (by first | (with_reducible assumption) | assumption)
               obtain ⟨ad159, e159, hx159_0, hx159_1⟩ := at_T37 (Kd.R_reads' HO_7.out).2.2 x11_2 p159 q159
               obtain rfl : ad155 = ad159 := (by injection e159)
               replace p159 := eq_true p159
               replace q159 := eq_true q159
               go_wp2
               repeat (go_quiet (fail); try go_wp2)
               go_roundg k2
               case measure => have := HJ5.out; have := HK2.out; omega
               case rel => exact ⟨(decide (a2 < ((rd_T37 t142 x11_2).f1))), (wrap64 (x11_2 + 1)), (by first | rfl | (simp; done) | (simp [*]; done)), (by first | rfl | (simp; done) | (simp [*]; done)), H', ⟨by have := HJ5.out; have := HK2.out; omega⟩, ⟨by (with_reducible repeat (first | apply Kd.R_alloc | apply Kd.R_drewN | apply Kd.R_drew)); exact HO_7.out⟩, ⟨by repeat (first | (with_reducible first | exact HB.out | apply below_alloc | apply pw_below_drewN | apply below_drew1) | exact HB.out)⟩⟩
           ·rw [if_neg c34] at H
            have c34b0 : decide (((rd_T37 t142 x11_2).f0) ≤ a2) = false := decide_eq_false c34
            clear c34
            by_cases c47 : ((rd_T37 t142 x11_2).f0) ≥ ((rd_T37 t142 x11_2).f1)
            ·rw [if_pos c47] at H
             have c47b0 : decide (((rd_T37 t142 x11_2).f1) ≤ ((rd_T37 t142 x11_2).f0)) = true := decide_eq_true c47
             clear c47
             obtain rfl := Option.some.inj H
             obtain ⟨Ao48, co48, eo48⟩ := Kd.R_slice HO_7.out
             subst eo48
             have p155 : 0 ≤ (x11_2 : Int) := of_decide_eq_true (by first | (with_reducible assumption) | assumption)
             have q155 : x11_2 < (t142.length : Int) := of_decide_eq_true (by first | (with_reducible assumption) | assumption)
             obtain ⟨ad155, e155, hx155_0, hx155_1⟩ := at_T37 (Kd.R_reads' HO_7.out).2.2 x11_2 p155 q155
             cases e155
             replace p155 := eq_true p155
             replace q155 := eq_true q155
             have p162 : 0 ≤ (x11_2 : Int) := of_decide_eq_true (by first | (with_reducible assumption) | assumption)
             have q162 : x11_2 < (t142.length : Int) := of_decide_eq_true (by first | (with_reducible assumption) | assumption)
             obtain ⟨ad162, e162, hx162_0, hx162_1⟩ := at_T37 (Kd.R_reads' HO_7.out).2.2 x11_2 p162 q162
             obtain rfl : ad155 = ad162 := (by injection e162)
             replace p162 := eq_true p162
             replace q162 := eq_true q162
             have p163 : 0 ≤ (x11_2 : Int) := of_decide_eq_true (by first | (with_reducible assumption) | assumption)
             have q163 : x11_2 < (t142.length : Int) := of_decide_eq_true (by first | (with_reducible assumption) | assumption)
             obtain ⟨ad163, e163, hx163_0, hx163_1⟩ := at_T37 (Kd.R_reads' HO_7.out).2.2 x11_2 p163 q163
             obtain rfl : ad155 = ad163 := (by injection e163)
             replace p163 := eq_true p163
             replace q163 := eq_true q163
             go_wp2
             repeat (go_quiet (fail); try go_wp2)
             go_ret
             exact ⟨by first | rfl | (simp [errW_none, errW_some] <;> rfl) | (simp [*, errW_none, errW_some] <;> rfl), by repeat (first | (with_reducible first | exact HB.out | apply below_alloc | apply pw_below_drewN | apply below_drew1) | exact HB.out)⟩
            ·rw [if_neg c47] at H
             have c47b0 : decide (((rd_T37 t142 x11_2).f1) ≤ ((rd_T37 t142 x11_2).f0)) = false := decide_eq_false c47
             clear c47
             by_cases c49 : ((rd_T37 t142 x11_2).f1) > a1
             ·rw [if_pos c49] at H
              have c49b0 : decide (a1 < ((rd_T37 t142 x11_2).f1)) = true := decide_eq_true c49
              clear c49
              obtain rfl := Option.some.inj H
              obtain ⟨Ao50, co50, eo50⟩ := Kd.R_slice HO_7.out
              subst eo50
              have p155 : 0 ≤ (x11_2 : Int) := of_decide_eq_true (by first | (with_reducible assumption) | assumption)
              have q155 : x11_2 < (t142.length : Int) := of_decide_eq_true (by first | (with_reducible assumption) | assumption)
              obtain ⟨ad155, e155, hx155_0, hx155_1⟩ := at_T37 (Kd.R_reads' HO_7.out).2.2 x11_2 p155 q155
              cases e155
              replace p155 := eq_true p155
              replace q155 := eq_true q155
              have p162 : 0 ≤ (x11_2 : Int) := of_decide_eq_true (by first | (with_reducible assumption) | assumption)
              have q162 : x11_2 < (t142.length : Int) := of_decide_eq_true (by first | (with_reducible assumption) | assumption)
              obtain ⟨ad162, e162, hx162_0, hx162_1⟩ := at_T37 (Kd.R_reads' HO_7.out).2.2 x11_2 p162 q162
              obtain rfl : ad155 = ad162 := (by injection e162)
              replace p162 := eq_true p162
              replace q162 := eq_true q162
              have p163 : 0 ≤ (x11_2 : Int) := of_decide_eq_true (by first | (with_reducible assumption) | assumption)
              have q163 : x11_2 < (t142.length : Int) := of_decide_eq_true (by first | (with_reducible assumption) | assumption)
              obtain ⟨ad163, e163, hx163_0, hx163_1⟩ := at_T37 (Kd.R_reads' HO_7.out).2.2 x11_2 p163 q163
              obtain rfl : ad155 = ad163 := (by injection e163)
              replace p163 := eq_true p163
              replace q163 := eq_true q163
              have p164 : 0 ≤ (x11_2 : Int) := of_decide_eq_true (by first | (with_reducible assumption) | assumption)
              have q164 : x11_2 < (t142.length : Int) := of_decide_eq_true (by first | (with_reducible assumption) | assumption)
              obtain ⟨ad164, e164, hx164_0, hx164_1⟩ := at_T37 (Kd.R_reads' HO_7.out).2.2 x11_2 p164 q164
              obtain rfl : ad155 = ad164 := (by injection e164)
              replace p164 := eq_true p164
              replace q164 := eq_true q164
              go_wp2
              repeat (go_quiet (fail); try go_wp2)
              go_ret
              exact ⟨by first | rfl | (simp [errW_none, errW_some] <;> rfl) | (simp [*, errW_none, errW_some] <;> rfl), by repeat (first | (with_reducible first | exact HB.out | apply below_alloc | apply pw_below_drewN | apply below_drew1) | exact HB.out)⟩
             ·rw [if_neg c49] at H
              have c49b0 : decide (a1 < ((rd_T37 t142 x11_2).f1)) = false := decide_eq_false c49
              clear c49
              by_cases c51 : x11_2 > 0
              ·rw [if_pos c51] at H
               have c51b0 : decide (0 < x11_2) = true := decide_eq_true c51
               clear c51
               obtain ⟨ji52, hji52⟩ : ∃ j_ : Int, (wrap64 (x11_2 - 1)) = j_ := ⟨_, rfl⟩
               replace H : (if 0 ≤ (ji52) then (if (ji52) < (t142.length : Int) then (if ((rd_T37 t142 (ji52)).f1) ≥ ((rd_T37 t142 x11_2).f0) then (some false) else (coppicelaw13_SparseRanges.l0 k2 l0 a1 a2 t142 false false (wrap64 (x11_2 + 1)))) else (none)) else (none)) = some r := by first | (rw [hji52] at H; exact H) | (simp only [hji52] at H ⊢; exact H)
               have hji52w : (IntKind.i64.wrap (x11_2 - 1)) = ji52 := (i64_w _).trans hji52
               by_cases c53 : 0 ≤ (ji52)
               ·rw [if_pos c53] at H
                have c53b0 : decide (0 ≤ (ji52)) = true := decide_eq_true c53
                clear c53
                by_cases c54 : (ji52) < (t142.length : Int)
                ·rw [if_pos c54] at H
                 have c54b0 : decide ((ji52) < (t142.length : Int)) = true := decide_eq_true c54
                 clear c54
                 by_cases c55 : ((rd_T37 t142 (ji52)).f1) ≥ ((rd_T37 t142 x11_2).f0)
                 ·rw [if_pos c55] at H
                  have c55b0 : decide (((rd_T37 t142 x11_2).f0) ≤ ((rd_T37 t142 (ji52)).f1)) = true := decide_eq_true c55
                  clear c55
                  obtain rfl := Option.some.inj H
                  obtain ⟨Ao56, co56, eo56⟩ := Kd.R_slice HO_7.out
                  subst eo56
                  have p155 : 0 ≤ (x11_2 : Int) := of_decide_eq_true (by first | (with_reducible assumption) | assumption)
                  have q155 : x11_2 < (t142.length : Int) := of_decide_eq_true (by first | (with_reducible assumption) | assumption)
                  obtain ⟨ad155, e155, hx155_0, hx155_1⟩ := at_T37 (Kd.R_reads' HO_7.out).2.2 x11_2 p155 q155
                  cases e155
                  replace p155 := eq_true p155
                  replace q155 := eq_true q155
                  have p162 : 0 ≤ (x11_2 : Int) := of_decide_eq_true (by first | (with_reducible assumption) | assumption)
                  have q162 : x11_2 < (t142.length : Int) := of_decide_eq_true (by first | (with_reducible assumption) | assumption)
                  obtain ⟨ad162, e162, hx162_0, hx162_1⟩ := at_T37 (Kd.R_reads' HO_7.out).2.2 x11_2 p162 q162
                  obtain rfl : ad155 = ad162 := (by injection e162)
                  replace p162 := eq_true p162
                  replace q162 := eq_true q162
                  have p163 : 0 ≤ (x11_2 : Int) := of_decide_eq_true (by first | (with_reducible assumption) | assumption)
                  have q163 : x11_2 < (t142.length : Int) := of_decide_eq_true (by first | (with_reducible assumption) | assumption)
                  obtain ⟨ad163, e163, hx163_0, hx163_1⟩ := at_T37 (Kd.R_reads' HO_7.out).2.2 x11_2 p163 q163
                  obtain rfl : ad155 = ad163 := (by injection e163)
                  replace p163 := eq_true p163
                  replace q163 := eq_true q163
                  have p164 : 0 ≤ (x11_2 : Int) := of_decide_eq_true (by first | (with_reducible assumption) | assumption)
                  have q164 : x11_2 < (t142.length : Int) := of_decide_eq_true (by first | (with_reducible assumption) | assumption)
                  obtain ⟨ad164, e164, hx164_0, hx164_1⟩ := at_T37 (Kd.R_reads' HO_7.out).2.2 x11_2 p164 q164
                  obtain rfl : ad155 = ad164 := (by injection e164)
                  replace p164 := eq_true p164
                  replace q164 := eq_true q164
                  have p165 : 0 ≤ ((ji52) : Int) := of_decide_eq_true (by first | (with_reducible assumption) | assumption)
                  have q165 : (ji52) < (t142.length : Int) := of_decide_eq_true (by first | (with_reducible assumption) | assumption)
                  obtain ⟨ad165, e165, hx165_0, hx165_1⟩ := at_T37 (Kd.R_reads' HO_7.out).2.2 (ji52) p165 q165
                  obtain rfl : ad155 = ad165 := (by injection e165)
                  replace p165 := eq_true p165
                  replace q165 := eq_true q165
                  have p166 : 0 ≤ (x11_2 : Int) := of_decide_eq_true (by first | (with_reducible assumption) | assumption)
                  have q166 : x11_2 < (t142.length : Int) := of_decide_eq_true (by first | (with_reducible assumption) | assumption)
                  obtain ⟨ad166, e166, hx166_0, hx166_1⟩ := at_T37 (Kd.R_reads' HO_7.out).2.2 x11_2 p166 q166
                  obtain rfl : ad155 = ad166 := (by injection e166)
                  replace p166 := eq_true p166
                  replace q166 := eq_true q166
                  go_wp2
                  repeat (go_quiet (fail); try go_wp2)
                  go_ret
                  exact ⟨by first | rfl | (simp [errW_none, errW_some] <;> rfl) | (simp only [← hji52]; first | rfl | (simp [errW_none, errW_some] <;> rfl)) | (simp [*, errW_none, errW_some] <;> rfl), by repeat (first | (with_reducible first | exact HB.out | apply below_alloc | apply pw_below_drewN | apply below_drew1) | exact HB.out)⟩
                 ·rw [if_neg c55] at H
                  have c55b0 : decide (((rd_T37 t142 x11_2).f0) ≤ ((rd_T37 t142 (ji52)).f1)) = false := decide_eq_false c55
                  clear c55
                  have H' := Aside0.mk H
                  clear H
                  obtain ⟨Ao57, co57, eo57⟩ := Kd.R_slice HO_7.out
                  subst eo57
                  have p155 : 0 ≤ (x11_2 : Int) := of_decide_eq_true (by first | (with_reducible assumption) | assumption)
                  have q155 : x11_2 < (t142.length : Int) := of_decide_eq_true (by first | (with_reducible assumption) | assumption)
                  obtain ⟨ad155, e155, hx155_0, hx155_1⟩ := at_T37 (Kd.R_reads' HO_7.out).2.2 x11_2 p155 q155
                  cases e155
                  replace p155 := eq_true p155
                  replace q155 := eq_true q155
                  have p162 : 0 ≤ (x11_2 : Int) := of_decide_eq_true (by first | (with_reducible assumption) | assumption)
                  have q162 : x11_2 < (t142.length : Int) := of_decide_eq_true (by first | (with_reducible assumption) | assumption)
                  obtain ⟨ad162, e162, hx162_0, hx162_1⟩ := at_T37 (Kd.R_reads' HO_7.out).2.2 x11_2 p162 q162
                  obtain rfl : ad155 = ad162 := (by injection e162)
                  replace p162 := eq_true p162
                  replace q162 := eq_true q162
                  have p163 : 0 ≤ (x11_2 : Int) := of_decide_eq_true (by first | (with_reducible assumption) | assumption)
                  have q163 : x11_2 < (t142.length : Int) := of_decide_eq_true (by first | (with_reducible assumption) | assumption)
                  obtain ⟨ad163, e163, hx163_0, hx163_1⟩ := at_T37 (Kd.R_reads' HO_7.out).2.2 x11_2 p163 q163
                  obtain rfl : ad155 = ad163 := (by injection e163)
                  replace p163 := eq_true p163
                  replace q163 := eq_true q163
                  have p164 : 0 ≤ (x11_2 : Int) := of_decide_eq_true (by first | (with_reducible assumption) | assumption)
                  have q164 : x11_2 < (t142.length : Int) := of_decide_eq_true (by first | (with_reducible assumption) | assumption)
                  obtain ⟨ad164, e164, hx164_0, hx164_1⟩ := at_T37 (Kd.R_reads' HO_7.out).2.2 x11_2 p164 q164
                  obtain rfl : ad155 = ad164 := (by injection e164)
                  replace p164 := eq_true p164
                  replace q164 := eq_true q164
                  have p165 : 0 ≤ ((ji52) : Int) := of_decide_eq_true (by first | (with_reducible assumption) | assumption)
                  have q165 : (ji52) < (t142.length : Int) := of_decide_eq_true (by first | (with_reducible assumption) | assumption)
                  obtain ⟨ad165, e165, hx165_0, hx165_1⟩ := at_T37 (Kd.R_reads' HO_7.out).2.2 (ji52) p165 q165
                  obtain rfl : ad155 = ad165 := (by injection e165)
                  replace p165 := eq_true p165
                  replace q165 := eq_true q165
                  have p166 : 0 ≤ (x11_2 : Int) := of_decide_eq_true (by first | (with_reducible assumption) | assumption)
                  have q166 : x11_2 < (t142.length : Int) := of_decide_eq_true (by first | (with_reducible assumption) | assumption)
                  obtain ⟨ad166, e166, hx166_0, hx166_1⟩ := at_T37 (Kd.R_reads' HO_7.out).2.2 x11_2 p166 q166
                  obtain rfl : ad155 = ad166 := (by injection e166)
                  replace p166 := eq_true p166
                  replace q166 := eq_true q166
                  go_wp2
                  repeat (go_quiet (fail); try go_wp2)
                  go_roundg k2
                  case measure => have := HJ5.out; have := HK2.out; omega
                  case rel => exact ⟨(false), (wrap64 (x11_2 + 1)), (by first | rfl | (simp; done) | (simp [*]; done)), (by first | rfl | (simp; done) | (simp [*]; done)), H', ⟨by have := HJ5.out; have := HK2.out; omega⟩, ⟨by (with_reducible repeat (first | apply Kd.R_alloc | apply Kd.R_drewN | apply Kd.R_drew)); exact HO_7.out⟩, ⟨by repeat (first | (with_reducible first | exact HB.out | apply below_alloc | apply pw_below_drewN | apply below_drew1) | exact HB.out)⟩⟩
                ·rw [if_neg c54] at H
                 exact absurd H (by simp)
               ·rw [if_neg c53] at H
                exact absurd H (by simp)
              ·rw [if_neg c51] at H
               have c51b0 : decide (0 < x11_2) = false := decide_eq_false c51
               clear c51
               have H' := Aside0.mk H
               clear H
               obtain ⟨Ao58, co58, eo58⟩ := Kd.R_slice HO_7.out
               subst eo58
               have p155 : 0 ≤ (x11_2 : Int) := of_decide_eq_true (by first | (with_reducible assumption) | assumption)
               have q155 : x11_2 < (t142.length : Int) := of_decide_eq_true (by first | (with_reducible assumption) | assumption)
               obtain ⟨ad155, e155, hx155_0, hx155_1⟩ := at_T37 (Kd.R_reads' HO_7.out).2.2 x11_2 p155 q155
               cases e155
               replace p155 := eq_true p155
               replace q155 := eq_true q155
               have p162 : 0 ≤ (x11_2 : Int) := of_decide_eq_true (by first | (with_reducible assumption) | assumption)
               have q162 : x11_2 < (t142.length : Int) := of_decide_eq_true (by first | (with_reducible assumption) | assumption)
               obtain ⟨ad162, e162, hx162_0, hx162_1⟩ := at_T37 (Kd.R_reads' HO_7.out).2.2 x11_2 p162 q162
               obtain rfl : ad155 = ad162 := (by injection e162)
               replace p162 := eq_true p162
               replace q162 := eq_true q162
               have p163 : 0 ≤ (x11_2 : Int) := of_decide_eq_true (by first | (with_reducible assumption) | assumption)
               have q163 : x11_2 < (t142.length : Int) := of_decide_eq_true (by first | (with_reducible assumption) | assumption)
               obtain ⟨ad163, e163, hx163_0, hx163_1⟩ := at_T37 (Kd.R_reads' HO_7.out).2.2 x11_2 p163 q163
               obtain rfl : ad155 = ad163 := (by injection e163)
               replace p163 := eq_true p163
               replace q163 := eq_true q163
               have p164 : 0 ≤ (x11_2 : Int) := of_decide_eq_true (by first | (with_reducible assumption) | assumption)
               have q164 : x11_2 < (t142.length : Int) := of_decide_eq_true (by first | (with_reducible assumption) | assumption)
               obtain ⟨ad164, e164, hx164_0, hx164_1⟩ := at_T37 (Kd.R_reads' HO_7.out).2.2 x11_2 p164 q164
               obtain rfl : ad155 = ad164 := (by injection e164)
               replace p164 := eq_true p164
               replace q164 := eq_true q164
               go_wp2
               repeat (go_quiet (fail); try go_wp2)
               go_roundg k2
               case measure => have := HJ5.out; have := HK2.out; omega
               case rel => exact ⟨(false), (wrap64 (x11_2 + 1)), (by first | rfl | (simp; done) | (simp [*]; done)), (by first | rfl | (simp; done) | (simp [*]; done)), H', ⟨by have := HJ5.out; have := HK2.out; omega⟩, ⟨by (with_reducible repeat (first | apply Kd.R_alloc | apply Kd.R_drewN | apply Kd.R_drew)); exact HO_7.out⟩, ⟨by repeat (first | (with_reducible first | exact HB.out | apply below_alloc | apply pw_below_drewN | apply below_drew1) | exact HB.out)⟩⟩
          ·rw [if_neg c33] at H
           exact absurd H (by simp)
        ·rw [if_neg c18] at H
         have c18b0 : decide (x11_2 < (t142.length : Int)) = false := decide_eq_false c18
         clear c18
         have H' := Aside0.mk H
         clear H
         obtain ⟨Ao59, co59, eo59⟩ := Kd.R_slice HO_7.out
         subst eo59
         go_wp2
         repeat (go_quiet (fail); try go_wp2)
         go_loopg [10, 12] k2 (fun kq v10 v12 w' => ∃ (x10_3 : Bool) (x12_3 : Int), v10 = .bool x10_3 ∧ v12 = .int .i64 x12_3 ∧ Aside0 (coppicelaw13_SparseRanges.l1 kq l0 a1 a2 x9_2 x10_3 x12_3 = some r) ∧ Aside0 (kq ≤ k2) ∧ Aside0 (Below w.heap.size w w'))
         case atStart => exact ⟨(false), (0), (by first | rfl | (simp; done) | (simp [*]; done)), (by first | rfl | (simp; done) | (simp [*]; done)), H', ⟨Nat.le_refl _⟩, ⟨by repeat (first | (with_reducible first | exact HB.out | apply below_alloc | apply pw_below_drewN | apply below_drew1) | exact HB.out)⟩⟩
         case round =>
          clear H'
          try clear c1
          try clear p1
          try clear q1
          try clear hx1
          try clear c2
          try clear p2
          try clear c3
          try clear c4
          try clear c5
          try clear p6
          try clear p15
          try clear q15
          try clear hx15
          try clear p16
          try clear q16
          try clear hx16
          try clear c18
          try clear c18b0
          try clear c19
          try clear c20
          try clear c25
          try clear c25b0
          try clear c27
          try clear c28
          try clear c29
          try clear c29b0
          try clear c33
          try clear c33b0
          try clear c34
          try clear c34b0
          try clear c35
          try clear c35b0
          try clear c37
          try clear c37b0
          try clear c39
          try clear c39b0
          try clear c41
          try clear c41b0
          try clear c42
          try clear c42b0
          try clear c43
          try clear c43b0
          try clear c47
          try clear c47b0
          try clear c49
          try clear c49b0
          try clear c51
          try clear c51b0
          try clear c53
          try clear c53b0
          try clear c54
          try clear c54b0
          try clear c55
          try clear c55b0
          try clear hx150_0
          try clear hx150_1
          try clear hx151_0
          try clear hx151_1
          try clear hx152_0
          try clear hx152_1
          try clear hx153_0
          try clear hx153_1
          try clear hx154_0
          try clear hx154_1
          try clear hx155_0
          try clear hx155_1
          try clear hx156_0
          try clear hx156_1
          try clear hx157_0
          try clear hx157_1
          try clear hx158_0
          try clear hx158_1
          try clear hx159_0
          try clear hx159_1
          try clear hx160_0
          try clear hx160_1
          try clear hx161_0
          try clear hx161_1
          try clear hx162_0
          try clear hx162_1
          try clear hx163_0
          try clear hx163_1
          try clear hx164_0
          try clear hx164_1
          try clear hx165_0
          try clear hx165_1
          try clear hx166_0
          try clear hx166_1
          try clear p150
          try clear p151
          try clear p152
          try clear p153
          try clear p154
          try clear p155
          try clear p156
          try clear p157
          try clear p158
          try clear p159
          try clear p160
          try clear p161
          try clear p162
          try clear p163
          try clear p164
          try clear p165
          try clear p166
          try clear q150
          try clear q151
          try clear q152
          try clear q153
          try clear q154
          try clear q155
          try clear q156
          try clear q157
          try clear q158
          try clear q159
          try clear q160
          try clear q161
          try clear q162
          try clear q163
          try clear q164
          try clear q165
          try clear q166
          obtain ⟨x10_3, x12_3, rfl, rfl, HA, HK3, HB⟩ := hrel
          cases gk with
          | zero => exact absurd HA.out (by simp [coppicelaw13_SparseRanges.l1])
          | succ k3 =>
           have H := HA.out
           clear HA
           simp only [coppicelaw13_SparseRanges.l1] at H
           by_cases c60 : x12_3 < (l0.length : Int)
           ·rw [if_pos c60] at H
            have c60b0 : decide (x12_3 < (l0.length : Int)) = true := decide_eq_true c60
            clear c60
            by_cases c61 : x10_3 = true
            ·subst c61
             have H1 : (coppicelaw13_SparseRanges.l1 k3 l0 a1 a2 x9_2 true (wrap64 (x12_3 + 1))) = some r := by rw [if_pos rfl] at H; exact H
             clear H
             have H := H1
             clear H1
             have H' := Aside0.mk H
             clear H
             go_wp2
             repeat (go_quiet (fail); try go_wp2)
             go_roundg k3
             case measure => have := HJ5.out; have := HK2.out; have := HK3.out; omega
             case rel => exact ⟨(true), (wrap64 (x12_3 + 1)), (by first | rfl | (simp; done) | (simp [*]; done)), (by first | rfl | (simp; done) | (simp [*]; done)), H', ⟨by have := HJ5.out; have := HK2.out; have := HK3.out; omega⟩, ⟨by repeat (first | (with_reducible first | exact HB.out | apply below_alloc | apply pw_below_drewN | apply below_drew1) | exact HB.out)⟩⟩
            ·replace c61 := Bool.eq_false_iff.mpr c61
             subst c61
             have H1 : (if 0 ≤ x12_3 then (coppicelaw13_SparseRanges.l1 k3 l0 a1 a2 x9_2 (((rd_T39 l0 x12_3).f0) == (wrap64 (Int.tdiv a2 64))) (wrap64 (x12_3 + 1))) else (none)) = some r := by rw [if_neg (show ¬ (false = true) by decide)] at H; exact H
             clear H
             have H := H1
             clear H1
             by_cases c62 : 0 ≤ x12_3
             ·rw [if_pos c62] at H
              have c62b0 : decide (0 ≤ x12_3) = true := decide_eq_true c62
              clear c62
              have H' := Aside0.mk H
              clear H
              have p167 : 0 ≤ (x12_3 : Int) := of_decide_eq_true (by first | (with_reducible assumption) | assumption)
              have q167 : x12_3 < (l0.length : Int) := of_decide_eq_true (by first | (with_reducible assumption) | assumption)
              obtain ⟨ad167, e167, hx167_0, hx167_1⟩ := at_T39 HR0.out x12_3 p167 q167
              cases e167
              replace hx167_0 := (HB.out.cell (World.block_lt_of_cell? w _ hx167_0)).trans hx167_0
              replace hx167_1 := (HB.out.cell (World.block_lt_of_cell? w _ hx167_1)).trans hx167_1
              replace p167 := eq_true p167
              replace q167 := eq_true q167
              go_wp2
              repeat (go_quiet (fail); try go_wp2)
              go_roundg k3
              case measure => have := HJ5.out; have := HK2.out; have := HK3.out; omega
              case rel => exact ⟨((((rd_T39 l0 x12_3).f0) == (wrap64 (Int.tdiv a2 64)))), (wrap64 (x12_3 + 1)), (by first | rfl | (simp; done) | (simp [*]; done)), (by first | rfl | (simp; done) | (simp [*]; done)), H', ⟨by have := HJ5.out; have := HK2.out; have := HK3.out; omega⟩, ⟨by repeat (first | (with_reducible first | exact HB.out | apply below_alloc | apply pw_below_drewN | apply below_drew1) | exact HB.out)⟩⟩
             ·rw [if_neg c62] at H
              exact absurd H (by simp)
           ·rw [if_neg c60] at H
            have c60b0 : decide (x12_3 < (l0.length : Int)) = false := decide_eq_false c60
            clear c60
            replace H := Option.bind_eq_some_iff.mp H
            obtain ⟨t168, A630, H⟩ := H
            replace H : ((sparse_Read.f k3 t168 a1 a2 1).bind fun bt171 => (if (x9_2 == x10_3) = true then (if bt171.2 = 0 then (if (bt171.1.size : Int) = 1 then (if x9_2 = true then (some true) else (some (bt171.1.toList == ([0] : List UInt8)))) else (some false)) else (some false)) else (some false))) = some r := H
            have A63 := Aside0.mk A630
            clear A630
            replace H := Option.bind_eq_some_iff.mp H
            obtain ⟨⟨t171, t172⟩, A640, H⟩ := H
            replace H : (if (x9_2 == x10_3) = true then (if t172 = 0 then (if (t171.size : Int) = 1 then (if x9_2 = true then (some true) else (some (t171.toList == ([0] : List UInt8)))) else (some false)) else (some false)) else (some false)) = some r := H
            have A64 := Aside0.mk A640
            clear A640
            by_cases c65 : (x9_2 == x10_3) = true
            ·rw [if_pos c65] at H
             have c65b0 : (x9_2 == x10_3) = true := c65
             (try (have c65b1 : decide (x9_2 = x10_3) = true := by simpa using c65))
             (try (have c65b2 : (x9_2 == x10_3) = true := by simpa using c65))
             clear c65
             by_cases c66 : t172 = 0
             ·rw [if_pos c66] at H
              have c66b0 : (t172 == 0) = true := beq_iff_eq.mpr c66
              have c66b1 : (t172 != 0) = false := bne_eq_false_iff_eq.mpr c66
              clear c66
              by_cases c67 : (t171.size : Int) = 1
              ·rw [if_pos c67] at H
               have c67b0 : ((t171.size : Int) == 1) = true := beq_iff_eq.mpr c67
               have c67b1 : ((t171.size : Int) != 1) = false := bne_eq_false_iff_eq.mpr c67
               clear c67
               by_cases c68 : x9_2 = true
               ·subst c68
                have H1 : (some true) = some r := by rw [if_pos rfl] at H; exact H
                clear H
                have H := H1
                clear H1
                obtain rfl := Option.some.inj H
                go_wp2_with (first | (go_at_call 12; (with_reducible refine (coppicelaw13_own.calls _ _ l0 t168 _ ?side1 ?side2 A63.out).mono ?_); (case side1 => repeat (first | exact (Kd.C_below HR0.out HB.out) | (with_reducible refine Kd.C_alloc ?_ _) | (with_reducible refine Kd.C_drewN ?_ _) | (with_reducible refine Kd.C_drew ?_))); (case side2 => exact HC0.out); rintro e w69 ⟨v169, rfl, ho0, hb⟩; have n0_ := Aside0.mk (Kd.R_lower ho0 (below_size (by repeat (first | (with_reducible first | exact HB.out | apply below_alloc | apply pw_below_drewN | apply below_drew1) | exact HB.out)))); have n1_ := Aside0.mk (below_step (by repeat (first | (with_reducible first | exact HB.out | apply below_alloc | apply pw_below_drewN | apply below_drew1) | exact HB.out)) hb); clear HB; have HO170 := n0_; have HB := n1_; clear n0_ n1_; (try clear hb); (try clear hb2); (try clear hk); (try clear hi); (try clear ho0); obtain ⟨Ao70, co70, eo70⟩ := Kd.R_slice HO170.out; subst eo70) | (go_at_call 13; (with_reducible refine (sparse_Read.calls k3 _ _ t168 a1 a2 1 t171 t172 _ ?side1 ?side2 A64.out).mono ?_); (case side1 => repeat (first | exact (Kd.R_reads' HO170.out).2.2 | (with_reducible refine Kd.C_alloc ?_ _) | (with_reducible refine Kd.C_drewN ?_ _) | (with_reducible refine Kd.C_drew ?_))); (case side2 => exact (Kd.R_reads' HO170.out).2.1); rintro e w71 ⟨rfl, hb⟩; have n0_ := Aside0.mk (Kd.R_below (by (with_reducible repeat (first | apply Kd.R_alloc | apply Kd.R_drewN | apply Kd.R_drew)); exact HO170.out) hb); have n1_ := Aside0.mk (below_step (by repeat (first | (with_reducible first | exact HB.out | apply below_alloc | apply pw_below_drewN | apply below_drew1) | exact HB.out)) hb); clear HO170; clear HB; have HO170 := n0_; have HB := n1_; clear n0_ n1_; (try clear hb); (try clear hb2); (try clear hk); (try clear hi)))
                repeat (go_quiet (first | (go_at_call 12; (fail_if_success (have := HO170)); (with_reducible refine (coppicelaw13_own.calls _ _ l0 t168 _ ?side1 ?side2 A63.out).mono ?_); (case side1 => repeat (first | exact (Kd.C_below HR0.out HB.out) | (with_reducible refine Kd.C_alloc ?_ _) | (with_reducible refine Kd.C_drewN ?_ _) | (with_reducible refine Kd.C_drew ?_))); (case side2 => exact HC0.out); rintro e w69 ⟨v169, rfl, ho0, hb⟩; have n0_ := Aside0.mk (Kd.R_lower ho0 (below_size (by repeat (first | (with_reducible first | exact HB.out | apply below_alloc | apply pw_below_drewN | apply below_drew1) | exact HB.out)))); have n1_ := Aside0.mk (below_step (by repeat (first | (with_reducible first | exact HB.out | apply below_alloc | apply pw_below_drewN | apply below_drew1) | exact HB.out)) hb); clear HB; have HO170 := n0_; have HB := n1_; clear n0_ n1_; (try clear hb); (try clear hb2); (try clear hk); (try clear hi); (try clear ho0); obtain ⟨Ao70, co70, eo70⟩ := Kd.R_slice HO170.out; subst eo70) | (go_at_call 13; (with_reducible refine (sparse_Read.calls k3 _ _ t168 a1 a2 1 t171 t172 _ ?side1 ?side2 A64.out).mono ?_); (case side1 => repeat (first | exact (Kd.R_reads' HO170.out).2.2 | (with_reducible refine Kd.C_alloc ?_ _) | (with_reducible refine Kd.C_drewN ?_ _) | (with_reducible refine Kd.C_drew ?_))); (case side2 => exact (Kd.R_reads' HO170.out).2.1); rintro e w71 ⟨rfl, hb⟩; have n0_ := Aside0.mk (Kd.R_below (by (with_reducible repeat (first | apply Kd.R_alloc | apply Kd.R_drewN | apply Kd.R_drew)); exact HO170.out) hb); have n1_ := Aside0.mk (below_step (by repeat (first | (with_reducible first | exact HB.out | apply below_alloc | apply pw_below_drewN | apply below_drew1) | exact HB.out)) hb); clear HO170; clear HB; have HO170 := n0_; have HB := n1_; clear n0_ n1_; (try clear hb); (try clear hb2); (try clear hk); (try clear hi))); try go_wp2_with (first | (go_at_call 12; (with_reducible refine (coppicelaw13_own.calls _ _ l0 t168 _ ?side1 ?side2 A63.out).mono ?_); (case side1 => repeat (first | exact (Kd.C_below HR0.out HB.out) | (with_reducible refine Kd.C_alloc ?_ _) | (with_reducible refine Kd.C_drewN ?_ _) | (with_reducible refine Kd.C_drew ?_))); (case side2 => exact HC0.out); rintro e w69 ⟨v169, rfl, ho0, hb⟩; have n0_ := Aside0.mk (Kd.R_lower ho0 (below_size (by repeat (first | (with_reducible first | exact HB.out | apply below_alloc | apply pw_below_drewN | apply below_drew1) | exact HB.out)))); have n1_ := Aside0.mk (below_step (by repeat (first | (with_reducible first | exact HB.out | apply below_alloc | apply pw_below_drewN | apply below_drew1) | exact HB.out)) hb); clear HB; have HO170 := n0_; have HB := n1_; clear n0_ n1_; (try clear hb); (try clear hb2); (try clear hk); (try clear hi); (try clear ho0); obtain ⟨Ao70, co70, eo70⟩ := Kd.R_slice HO170.out; subst eo70) | (go_at_call 13; (with_reducible refine (sparse_Read.calls k3 _ _ t168 a1 a2 1 t171 t172 _ ?side1 ?side2 A64.out).mono ?_); (case side1 => repeat (first | exact (Kd.R_reads' HO170.out).2.2 | (with_reducible refine Kd.C_alloc ?_ _) | (with_reducible refine Kd.C_drewN ?_ _) | (with_reducible refine Kd.C_drew ?_))); (case side2 => exact (Kd.R_reads' HO170.out).2.1); rintro e w71 ⟨rfl, hb⟩; have n0_ := Aside0.mk (Kd.R_below (by (with_reducible repeat (first | apply Kd.R_alloc | apply Kd.R_drewN | apply Kd.R_drew)); exact HO170.out) hb); have n1_ := Aside0.mk (below_step (by repeat (first | (with_reducible first | exact HB.out | apply below_alloc | apply pw_below_drewN | apply below_drew1) | exact HB.out)) hb); clear HO170; clear HB; have HO170 := n0_; have HB := n1_; clear n0_ n1_; (try clear hb); (try clear hb2); (try clear hk); (try clear hi))))
                go_ret
                exact ⟨by first | rfl | (simp [errW_none, errW_some] <;> rfl) | (simp [*, errW_none, errW_some] <;> rfl), by repeat (first | (with_reducible first | exact HB.out | apply below_alloc | apply pw_below_drewN | apply below_drew1) | exact HB.out)⟩
               ·replace c68 := Bool.eq_false_iff.mpr c68
                subst c68
                have H1 : (some (t171.toList == ([0] : List UInt8))) = some r := by rw [if_neg (show ¬ (false = true) by decide)] at H; exact H
                clear H
                have H := H1
                clear H1
                obtain rfl := Option.some.inj H
                go_wp2_with (first | (go_at_call 12; (with_reducible refine (coppicelaw13_own.calls _ _ l0 t168 _ ?side1 ?side2 A63.out).mono ?_); (case side1 => repeat (first | exact (Kd.C_below HR0.out HB.out) | (with_reducible refine Kd.C_alloc ?_ _) | (with_reducible refine Kd.C_drewN ?_ _) | (with_reducible refine Kd.C_drew ?_))); (case side2 => exact HC0.out); rintro e w72 ⟨v169, rfl, ho0, hb⟩; have n0_ := Aside0.mk (Kd.R_lower ho0 (below_size (by repeat (first | (with_reducible first | exact HB.out | apply below_alloc | apply pw_below_drewN | apply below_drew1) | exact HB.out)))); have n1_ := Aside0.mk (below_step (by repeat (first | (with_reducible first | exact HB.out | apply below_alloc | apply pw_below_drewN | apply below_drew1) | exact HB.out)) hb); clear HB; have HO170 := n0_; have HB := n1_; clear n0_ n1_; (try clear hb); (try clear hb2); (try clear hk); (try clear hi); (try clear ho0); obtain ⟨Ao73, co73, eo73⟩ := Kd.R_slice HO170.out; subst eo73) | (go_at_call 13; (with_reducible refine (sparse_Read.calls k3 _ _ t168 a1 a2 1 t171 t172 _ ?side1 ?side2 A64.out).mono ?_); (case side1 => repeat (first | exact (Kd.R_reads' HO170.out).2.2 | (with_reducible refine Kd.C_alloc ?_ _) | (with_reducible refine Kd.C_drewN ?_ _) | (with_reducible refine Kd.C_drew ?_))); (case side2 => exact (Kd.R_reads' HO170.out).2.1); rintro e w74 ⟨rfl, hb⟩; have n0_ := Aside0.mk (Kd.R_below (by (with_reducible repeat (first | apply Kd.R_alloc | apply Kd.R_drewN | apply Kd.R_drew)); exact HO170.out) hb); have n1_ := Aside0.mk (below_step (by repeat (first | (with_reducible first | exact HB.out | apply below_alloc | apply pw_below_drewN | apply below_drew1) | exact HB.out)) hb); clear HO170; clear HB; have HO170 := n0_; have HB := n1_; clear n0_ n1_; (try clear hb); (try clear hb2); (try clear hk); (try clear hi)))
                repeat (go_quiet (first | (go_at_call 12; (fail_if_success (have := HO170)); (with_reducible refine (coppicelaw13_own.calls _ _ l0 t168 _ ?side1 ?side2 A63.out).mono ?_); (case side1 => repeat (first | exact (Kd.C_below HR0.out HB.out) | (with_reducible refine Kd.C_alloc ?_ _) | (with_reducible refine Kd.C_drewN ?_ _) | (with_reducible refine Kd.C_drew ?_))); (case side2 => exact HC0.out); rintro e w72 ⟨v169, rfl, ho0, hb⟩; have n0_ := Aside0.mk (Kd.R_lower ho0 (below_size (by repeat (first | (with_reducible first | exact HB.out | apply below_alloc | apply pw_below_drewN | apply below_drew1) | exact HB.out)))); have n1_ := Aside0.mk (below_step (by repeat (first | (with_reducible first | exact HB.out | apply below_alloc | apply pw_below_drewN | apply below_drew1) | exact HB.out)) hb); clear HB; have HO170 := n0_; have HB := n1_; clear n0_ n1_; (try clear hb); (try clear hb2); (try clear hk); (try clear hi); (try clear ho0); obtain ⟨Ao73, co73, eo73⟩ := Kd.R_slice HO170.out; subst eo73) | (go_at_call 13; (with_reducible refine (sparse_Read.calls k3 _ _ t168 a1 a2 1 t171 t172 _ ?side1 ?side2 A64.out).mono ?_); (case side1 => repeat (first | exact (Kd.R_reads' HO170.out).2.2 | (with_reducible refine Kd.C_alloc ?_ _) | (with_reducible refine Kd.C_drewN ?_ _) | (with_reducible refine Kd.C_drew ?_))); (case side2 => exact (Kd.R_reads' HO170.out).2.1); rintro e w74 ⟨rfl, hb⟩; have n0_ := Aside0.mk (Kd.R_below (by (with_reducible repeat (first | apply Kd.R_alloc | apply Kd.R_drewN | apply Kd.R_drew)); exact HO170.out) hb); have n1_ := Aside0.mk (below_step (by repeat (first | (with_reducible first | exact HB.out | apply below_alloc | apply pw_below_drewN | apply below_drew1) | exact HB.out)) hb); clear HO170; clear HB; have HO170 := n0_; have HB := n1_; clear n0_ n1_; (try clear hb); (try clear hb2); (try clear hk); (try clear hi))); try go_wp2_with (first | (go_at_call 12; (with_reducible refine (coppicelaw13_own.calls _ _ l0 t168 _ ?side1 ?side2 A63.out).mono ?_); (case side1 => repeat (first | exact (Kd.C_below HR0.out HB.out) | (with_reducible refine Kd.C_alloc ?_ _) | (with_reducible refine Kd.C_drewN ?_ _) | (with_reducible refine Kd.C_drew ?_))); (case side2 => exact HC0.out); rintro e w72 ⟨v169, rfl, ho0, hb⟩; have n0_ := Aside0.mk (Kd.R_lower ho0 (below_size (by repeat (first | (with_reducible first | exact HB.out | apply below_alloc | apply pw_below_drewN | apply below_drew1) | exact HB.out)))); have n1_ := Aside0.mk (below_step (by repeat (first | (with_reducible first | exact HB.out | apply below_alloc | apply pw_below_drewN | apply below_drew1) | exact HB.out)) hb); clear HB; have HO170 := n0_; have HB := n1_; clear n0_ n1_; (try clear hb); (try clear hb2); (try clear hk); (try clear hi); (try clear ho0); obtain ⟨Ao73, co73, eo73⟩ := Kd.R_slice HO170.out; subst eo73) | (go_at_call 13; (with_reducible refine (sparse_Read.calls k3 _ _ t168 a1 a2 1 t171 t172 _ ?side1 ?side2 A64.out).mono ?_); (case side1 => repeat (first | exact (Kd.R_reads' HO170.out).2.2 | (with_reducible refine Kd.C_alloc ?_ _) | (with_reducible refine Kd.C_drewN ?_ _) | (with_reducible refine Kd.C_drew ?_))); (case side2 => exact (Kd.R_reads' HO170.out).2.1); rintro e w74 ⟨rfl, hb⟩; have n0_ := Aside0.mk (Kd.R_below (by (with_reducible repeat (first | apply Kd.R_alloc | apply Kd.R_drewN | apply Kd.R_drew)); exact HO170.out) hb); have n1_ := Aside0.mk (below_step (by repeat (first | (with_reducible first | exact HB.out | apply below_alloc | apply pw_below_drewN | apply below_drew1) | exact HB.out)) hb); clear HO170; clear HB; have HO170 := n0_; have HB := n1_; clear n0_ n1_; (try clear hb); (try clear hb2); (try clear hk); (try clear hi))))
                go_ret
                exact ⟨by first | rfl | (simp [errW_none, errW_some] <;> rfl) | (simp [*, errW_none, errW_some] <;> rfl), by repeat (first | (with_reducible first | exact HB.out | apply below_alloc | apply pw_below_drewN | apply below_drew1) | exact HB.out)⟩
              ·rw [if_neg c67] at H
               have c67b0 : ((t171.size : Int) == 1) = false := beq_eq_false_iff_ne.mpr c67
               have c67b1 : ((t171.size : Int) != 1) = true := bne_iff_ne.mpr c67
               obtain rfl := Option.some.inj H
               go_wp2_with (first | (go_at_call 12; (with_reducible refine (coppicelaw13_own.calls _ _ l0 t168 _ ?side1 ?side2 A63.out).mono ?_); (case side1 => repeat (first | exact (Kd.C_below HR0.out HB.out) | (with_reducible refine Kd.C_alloc ?_ _) | (with_reducible refine Kd.C_drewN ?_ _) | (with_reducible refine Kd.C_drew ?_))); (case side2 => exact HC0.out); rintro e w75 ⟨v169, rfl, ho0, hb⟩; have n0_ := Aside0.mk (Kd.R_lower ho0 (below_size (by repeat (first | (with_reducible first | exact HB.out | apply below_alloc | apply pw_below_drewN | apply below_drew1) | exact HB.out)))); have n1_ := Aside0.mk (below_step (by repeat (first | (with_reducible first | exact HB.out | apply below_alloc | apply pw_below_drewN | apply below_drew1) | exact HB.out)) hb); clear HB; have HO170 := n0_; have HB := n1_; clear n0_ n1_; (try clear hb); (try clear hb2); (try clear hk); (try clear hi); (try clear ho0); obtain ⟨Ao76, co76, eo76⟩ := Kd.R_slice HO170.out; subst eo76) | (go_at_call 13; (with_reducible refine (sparse_Read.calls k3 _ _ t168 a1 a2 1 t171 t172 _ ?side1 ?side2 A64.out).mono ?_); (case side1 => repeat (first | exact (Kd.R_reads' HO170.out).2.2 | (with_reducible refine Kd.C_alloc ?_ _) | (with_reducible refine Kd.C_drewN ?_ _) | (with_reducible refine Kd.C_drew ?_))); (case side2 => exact (Kd.R_reads' HO170.out).2.1); rintro e w77 ⟨rfl, hb⟩; have n0_ := Aside0.mk (Kd.R_below (by (with_reducible repeat (first | apply Kd.R_alloc | apply Kd.R_drewN | apply Kd.R_drew)); exact HO170.out) hb); have n1_ := Aside0.mk (below_step (by repeat (first | (with_reducible first | exact HB.out | apply below_alloc | apply pw_below_drewN | apply below_drew1) | exact HB.out)) hb); clear HO170; clear HB; have HO170 := n0_; have HB := n1_; clear n0_ n1_; (try clear hb); (try clear hb2); (try clear hk); (try clear hi)))
               repeat (go_quiet (first | (go_at_call 12; (fail_if_success (have := HO170)); (with_reducible refine (coppicelaw13_own.calls _ _ l0 t168 _ ?side1 ?side2 A63.out).mono ?_); (case side1 => repeat (first | exact (Kd.C_below HR0.out HB.out) | (with_reducible refine Kd.C_alloc ?_ _) | (with_reducible refine Kd.C_drewN ?_ _) | (with_reducible refine Kd.C_drew ?_))); (case side2 => exact HC0.out); rintro e w75 ⟨v169, rfl, ho0, hb⟩; have n0_ := Aside0.mk (Kd.R_lower ho0 (below_size (by repeat (first | (with_reducible first | exact HB.out | apply below_alloc | apply pw_below_drewN | apply below_drew1) | exact HB.out)))); have n1_ := Aside0.mk (below_step (by repeat (first | (with_reducible first | exact HB.out | apply below_alloc | apply pw_below_drewN | apply below_drew1) | exact HB.out)) hb); clear HB; have HO170 := n0_; have HB := n1_; clear n0_ n1_; (try clear hb); (try clear hb2); (try clear hk); (try clear hi); (try clear ho0); obtain ⟨Ao76, co76, eo76⟩ := Kd.R_slice HO170.out; subst eo76) | (go_at_call 13; (with_reducible refine (sparse_Read.calls k3 _ _ t168 a1 a2 1 t171 t172 _ ?side1 ?side2 A64.out).mono ?_); (case side1 => repeat (first | exact (Kd.R_reads' HO170.out).2.2 | (with_reducible refine Kd.C_alloc ?_ _) | (with_reducible refine Kd.C_drewN ?_ _) | (with_reducible refine Kd.C_drew ?_))); (case side2 => exact (Kd.R_reads' HO170.out).2.1); rintro e w77 ⟨rfl, hb⟩; have n0_ := Aside0.mk (Kd.R_below (by (with_reducible repeat (first | apply Kd.R_alloc | apply Kd.R_drewN | apply Kd.R_drew)); exact HO170.out) hb); have n1_ := Aside0.mk (below_step (by repeat (first | (with_reducible first | exact HB.out | apply below_alloc | apply pw_below_drewN | apply below_drew1) | exact HB.out)) hb); clear HO170; clear HB; have HO170 := n0_; have HB := n1_; clear n0_ n1_; (try clear hb); (try clear hb2); (try clear hk); (try clear hi))); try go_wp2_with (first | (go_at_call 12; (with_reducible refine (coppicelaw13_own.calls _ _ l0 t168 _ ?side1 ?side2 A63.out).mono ?_); (case side1 => repeat (first | exact (Kd.C_below HR0.out HB.out) | (with_reducible refine Kd.C_alloc ?_ _) | (with_reducible refine Kd.C_drewN ?_ _) | (with_reducible refine Kd.C_drew ?_))); (case side2 => exact HC0.out); rintro e w75 ⟨v169, rfl, ho0, hb⟩; have n0_ := Aside0.mk (Kd.R_lower ho0 (below_size (by repeat (first | (with_reducible first | exact HB.out | apply below_alloc | apply pw_below_drewN | apply below_drew1) | exact HB.out)))); have n1_ := Aside0.mk (below_step (by repeat (first | (with_reducible first | exact HB.out | apply below_alloc | apply pw_below_drewN | apply below_drew1) | exact HB.out)) hb); clear HB; have HO170 := n0_; have HB := n1_; clear n0_ n1_; (try clear hb); (try clear hb2); (try clear hk); (try clear hi); (try clear ho0); obtain ⟨Ao76, co76, eo76⟩ := Kd.R_slice HO170.out; subst eo76) | (go_at_call 13; (with_reducible refine (sparse_Read.calls k3 _ _ t168 a1 a2 1 t171 t172 _ ?side1 ?side2 A64.out).mono ?_); (case side1 => repeat (first | exact (Kd.R_reads' HO170.out).2.2 | (with_reducible refine Kd.C_alloc ?_ _) | (with_reducible refine Kd.C_drewN ?_ _) | (with_reducible refine Kd.C_drew ?_))); (case side2 => exact (Kd.R_reads' HO170.out).2.1); rintro e w77 ⟨rfl, hb⟩; have n0_ := Aside0.mk (Kd.R_below (by (with_reducible repeat (first | apply Kd.R_alloc | apply Kd.R_drewN | apply Kd.R_drew)); exact HO170.out) hb); have n1_ := Aside0.mk (below_step (by repeat (first | (with_reducible first | exact HB.out | apply below_alloc | apply pw_below_drewN | apply below_drew1) | exact HB.out)) hb); clear HO170; clear HB; have HO170 := n0_; have HB := n1_; clear n0_ n1_; (try clear hb); (try clear hb2); (try clear hk); (try clear hi))))
               go_ret
               exact ⟨by first | rfl | (simp [errW_none, errW_some] <;> rfl) | (simp [*, errW_none, errW_some] <;> rfl), by repeat (first | (with_reducible first | exact HB.out | apply below_alloc | apply pw_below_drewN | apply below_drew1) | exact HB.out)⟩
             ·rw [if_neg c66] at H
              have c66b0 : (t172 == 0) = false := beq_eq_false_iff_ne.mpr c66
              have c66b1 : (t172 != 0) = true := bne_iff_ne.mpr c66
              obtain rfl := Option.some.inj H
              go_wp2_with (first | (go_at_call 12; (with_reducible refine (coppicelaw13_own.calls _ _ l0 t168 _ ?side1 ?side2 A63.out).mono ?_); (case side1 => repeat (first | exact (Kd.C_below HR0.out HB.out) | (with_reducible refine Kd.C_alloc ?_ _) | (with_reducible refine Kd.C_drewN ?_ _) | (with_reducible refine Kd.C_drew ?_))); (case side2 => exact HC0.out); rintro e w78 ⟨v169, rfl, ho0, hb⟩; have n0_ := Aside0.mk (Kd.R_lower ho0 (below_size (by repeat (first | (with_reducible first | exact HB.out | apply below_alloc | apply pw_below_drewN | apply below_drew1) | exact HB.out)))); have n1_ := Aside0.mk (below_step (by repeat (first | (with_reducible first | exact HB.out | apply below_alloc | apply pw_below_drewN | apply below_drew1) | exact HB.out)) hb); clear HB; have HO170 := n0_; have HB := n1_; clear n0_ n1_; (try clear hb); (try clear hb2); (try clear hk); (try clear hi); (try clear ho0); obtain ⟨Ao79, co79, eo79⟩ := Kd.R_slice HO170.out; subst eo79) | (go_at_call 13; (with_reducible refine (sparse_Read.calls k3 _ _ t168 a1 a2 1 t171 t172 _ ?side1 ?side2 A64.out).mono ?_); (case side1 => repeat (first | exact (Kd.R_reads' HO170.out).2.2 | (with_reducible refine Kd.C_alloc ?_ _) | (with_reducible refine Kd.C_drewN ?_ _) | (with_reducible refine Kd.C_drew ?_))); (case side2 => exact (Kd.R_reads' HO170.out).2.1); rintro e w80 ⟨rfl, hb⟩; have n0_ := Aside0.mk (Kd.R_below (by (with_reducible repeat (first | apply Kd.R_alloc | apply Kd.R_drewN | apply Kd.R_drew)); exact HO170.out) hb); have n1_ := Aside0.mk (below_step (by repeat (first | (with_reducible first | exact HB.out | apply below_alloc | apply pw_below_drewN | apply below_drew1) | exact HB.out)) hb); clear HO170; clear HB; have HO170 := n0_; have HB := n1_; clear n0_ n1_; (try clear hb); (try clear hb2); (try clear hk); (try clear hi)))
              repeat (go_quiet (first | (go_at_call 12; (fail_if_success (have := HO170)); (with_reducible refine (coppicelaw13_own.calls _ _ l0 t168 _ ?side1 ?side2 A63.out).mono ?_); (case side1 => repeat (first | exact (Kd.C_below HR0.out HB.out) | (with_reducible refine Kd.C_alloc ?_ _) | (with_reducible refine Kd.C_drewN ?_ _) | (with_reducible refine Kd.C_drew ?_))); (case side2 => exact HC0.out); rintro e w78 ⟨v169, rfl, ho0, hb⟩; have n0_ := Aside0.mk (Kd.R_lower ho0 (below_size (by repeat (first | (with_reducible first | exact HB.out | apply below_alloc | apply pw_below_drewN | apply below_drew1) | exact HB.out)))); have n1_ := Aside0.mk (below_step (by repeat (first | (with_reducible first | exact HB.out | apply below_alloc | apply pw_below_drewN | apply below_drew1) | exact HB.out)) hb); clear HB; have HO170 := n0_; have HB := n1_; clear n0_ n1_; (try clear hb); (try clear hb2); (try clear hk); (try clear hi); (try clear ho0); obtain ⟨Ao79, co79, eo79⟩ := Kd.R_slice HO170.out; subst eo79) | (go_at_call 13; (with_reducible refine (sparse_Read.calls k3 _ _ t168 a1 a2 1 t171 t172 _ ?side1 ?side2 A64.out).mono ?_); (case side1 => repeat (first | exact (Kd.R_reads' HO170.out).2.2 | (with_reducible refine Kd.C_alloc ?_ _) | (with_reducible refine Kd.C_drewN ?_ _) | (with_reducible refine Kd.C_drew ?_))); (case side2 => exact (Kd.R_reads' HO170.out).2.1); rintro e w80 ⟨rfl, hb⟩; have n0_ := Aside0.mk (Kd.R_below (by (with_reducible repeat (first | apply Kd.R_alloc | apply Kd.R_drewN | apply Kd.R_drew)); exact HO170.out) hb); have n1_ := Aside0.mk (below_step (by repeat (first | (with_reducible first | exact HB.out | apply below_alloc | apply pw_below_drewN | apply below_drew1) | exact HB.out)) hb); clear HO170; clear HB; have HO170 := n0_; have HB := n1_; clear n0_ n1_; (try clear hb); (try clear hb2); (try clear hk); (try clear hi))); try go_wp2_with (first | (go_at_call 12; (with_reducible refine (coppicelaw13_own.calls _ _ l0 t168 _ ?side1 ?side2 A63.out).mono ?_); (case side1 => repeat (first | exact (Kd.C_below HR0.out HB.out) | (with_reducible refine Kd.C_alloc ?_ _) | (with_reducible refine Kd.C_drewN ?_ _) | (with_reducible refine Kd.C_drew ?_))); (case side2 => exact HC0.out); rintro e w78 ⟨v169, rfl, ho0, hb⟩; have n0_ := Aside0.mk (Kd.R_lower ho0 (below_size (by repeat (first | (with_reducible first | exact HB.out | apply below_alloc | apply pw_below_drewN | apply below_drew1) | exact HB.out)))); have n1_ := Aside0.mk (below_step (by repeat (first | (with_reducible first | exact HB.out | apply below_alloc | apply pw_below_drewN | apply below_drew1) | exact HB.out)) hb); clear HB; have HO170 := n0_; have HB := n1_; clear n0_ n1_; (try clear hb); (try clear hb2); (try clear hk); (try clear hi); (try clear ho0); obtain ⟨Ao79, co79, eo79⟩ := Kd.R_slice HO170.out; subst eo79) | (go_at_call 13; (with_reducible refine (sparse_Read.calls k3 _ _ t168 a1 a2 1 t171 t172 _ ?side1 ?side2 A64.out).mono ?_); (case side1 => repeat (first | exact (Kd.R_reads' HO170.out).2.2 | (with_reducible refine Kd.C_alloc ?_ _) | (with_reducible refine Kd.C_drewN ?_ _) | (with_reducible refine Kd.C_drew ?_))); (case side2 => exact (Kd.R_reads' HO170.out).2.1); rintro e w80 ⟨rfl, hb⟩; have n0_ := Aside0.mk (Kd.R_below (by (with_reducible repeat (first | apply Kd.R_alloc | apply Kd.R_drewN | apply Kd.R_drew)); exact HO170.out) hb); have n1_ := Aside0.mk (below_step (by repeat (first | (with_reducible first | exact HB.out | apply below_alloc | apply pw_below_drewN | apply below_drew1) | exact HB.out)) hb); clear HO170; clear HB; have HO170 := n0_; have HB := n1_; clear n0_ n1_; (try clear hb); (try clear hb2); (try clear hk); (try clear hi))))
              go_ret
              exact ⟨by first | rfl | (simp [errW_none, errW_some] <;> rfl) | (simp [*, errW_none, errW_some] <;> rfl), by repeat (first | (with_reducible first | exact HB.out | apply below_alloc | apply pw_below_drewN | apply below_drew1) | exact HB.out)⟩
            ·rw [if_neg c65] at H
             have c65b0 : (x9_2 == x10_3) = false := by simpa using c65
             (try (have c65b1 : decide (x9_2 = x10_3) = false := by simpa using c65))
             (try (have c65b2 : (x9_2 == x10_3) = false := by simpa using c65))
             (try (have c65b3 : ¬ (x9_2 = x10_3) := by simpa using c65))
             clear c65
             obtain rfl := Option.some.inj H
             go_wp2_with (first | (go_at_call 12; (with_reducible refine (coppicelaw13_own.calls _ _ l0 t168 _ ?side1 ?side2 A63.out).mono ?_); (case side1 => repeat (first | exact (Kd.C_below HR0.out HB.out) | (with_reducible refine Kd.C_alloc ?_ _) | (with_reducible refine Kd.C_drewN ?_ _) | (with_reducible refine Kd.C_drew ?_))); (case side2 => exact HC0.out); rintro e w81 ⟨v169, rfl, ho0, hb⟩; have n0_ := Aside0.mk (Kd.R_lower ho0 (below_size (by repeat (first | (with_reducible first | exact HB.out | apply below_alloc | apply pw_below_drewN | apply below_drew1) | exact HB.out)))); have n1_ := Aside0.mk (below_step (by repeat (first | (with_reducible first | exact HB.out | apply below_alloc | apply pw_below_drewN | apply below_drew1) | exact HB.out)) hb); clear HB; have HO170 := n0_; have HB := n1_; clear n0_ n1_; (try clear hb); (try clear hb2); (try clear hk); (try clear hi); (try clear ho0); obtain ⟨Ao82, co82, eo82⟩ := Kd.R_slice HO170.out; subst eo82) | (go_at_call 13; (with_reducible refine (sparse_Read.calls k3 _ _ t168 a1 a2 1 t171 t172 _ ?side1 ?side2 A64.out).mono ?_); (case side1 => repeat (first | exact (Kd.R_reads' HO170.out).2.2 | (with_reducible refine Kd.C_alloc ?_ _) | (with_reducible refine Kd.C_drewN ?_ _) | (with_reducible refine Kd.C_drew ?_))); (case side2 => exact (Kd.R_reads' HO170.out).2.1); rintro e w83 ⟨rfl, hb⟩; have n0_ := Aside0.mk (Kd.R_below (by (with_reducible repeat (first | apply Kd.R_alloc | apply Kd.R_drewN | apply Kd.R_drew)); exact HO170.out) hb); have n1_ := Aside0.mk (below_step (by repeat (first | (with_reducible first | exact HB.out | apply below_alloc | apply pw_below_drewN | apply below_drew1) | exact HB.out)) hb); clear HO170; clear HB; have HO170 := n0_; have HB := n1_; clear n0_ n1_; (try clear hb); (try clear hb2); (try clear hk); (try clear hi)))
             repeat (go_quiet (first | (go_at_call 12; (fail_if_success (have := HO170)); (with_reducible refine (coppicelaw13_own.calls _ _ l0 t168 _ ?side1 ?side2 A63.out).mono ?_); (case side1 => repeat (first | exact (Kd.C_below HR0.out HB.out) | (with_reducible refine Kd.C_alloc ?_ _) | (with_reducible refine Kd.C_drewN ?_ _) | (with_reducible refine Kd.C_drew ?_))); (case side2 => exact HC0.out); rintro e w81 ⟨v169, rfl, ho0, hb⟩; have n0_ := Aside0.mk (Kd.R_lower ho0 (below_size (by repeat (first | (with_reducible first | exact HB.out | apply below_alloc | apply pw_below_drewN | apply below_drew1) | exact HB.out)))); have n1_ := Aside0.mk (below_step (by repeat (first | (with_reducible first | exact HB.out | apply below_alloc | apply pw_below_drewN | apply below_drew1) | exact HB.out)) hb); clear HB; have HO170 := n0_; have HB := n1_; clear n0_ n1_; (try clear hb); (try clear hb2); (try clear hk); (try clear hi); (try clear ho0); obtain ⟨Ao82, co82, eo82⟩ := Kd.R_slice HO170.out; subst eo82) | (go_at_call 13; (with_reducible refine (sparse_Read.calls k3 _ _ t168 a1 a2 1 t171 t172 _ ?side1 ?side2 A64.out).mono ?_); (case side1 => repeat (first | exact (Kd.R_reads' HO170.out).2.2 | (with_reducible refine Kd.C_alloc ?_ _) | (with_reducible refine Kd.C_drewN ?_ _) | (with_reducible refine Kd.C_drew ?_))); (case side2 => exact (Kd.R_reads' HO170.out).2.1); rintro e w83 ⟨rfl, hb⟩; have n0_ := Aside0.mk (Kd.R_below (by (with_reducible repeat (first | apply Kd.R_alloc | apply Kd.R_drewN | apply Kd.R_drew)); exact HO170.out) hb); have n1_ := Aside0.mk (below_step (by repeat (first | (with_reducible first | exact HB.out | apply below_alloc | apply pw_below_drewN | apply below_drew1) | exact HB.out)) hb); clear HO170; clear HB; have HO170 := n0_; have HB := n1_; clear n0_ n1_; (try clear hb); (try clear hb2); (try clear hk); (try clear hi))); try go_wp2_with (first | (go_at_call 12; (with_reducible refine (coppicelaw13_own.calls _ _ l0 t168 _ ?side1 ?side2 A63.out).mono ?_); (case side1 => repeat (first | exact (Kd.C_below HR0.out HB.out) | (with_reducible refine Kd.C_alloc ?_ _) | (with_reducible refine Kd.C_drewN ?_ _) | (with_reducible refine Kd.C_drew ?_))); (case side2 => exact HC0.out); rintro e w81 ⟨v169, rfl, ho0, hb⟩; have n0_ := Aside0.mk (Kd.R_lower ho0 (below_size (by repeat (first | (with_reducible first | exact HB.out | apply below_alloc | apply pw_below_drewN | apply below_drew1) | exact HB.out)))); have n1_ := Aside0.mk (below_step (by repeat (first | (with_reducible first | exact HB.out | apply below_alloc | apply pw_below_drewN | apply below_drew1) | exact HB.out)) hb); clear HB; have HO170 := n0_; have HB := n1_; clear n0_ n1_; (try clear hb); (try clear hb2); (try clear hk); (try clear hi); (try clear ho0); obtain ⟨Ao82, co82, eo82⟩ := Kd.R_slice HO170.out; subst eo82) | (go_at_call 13; (with_reducible refine (sparse_Read.calls k3 _ _ t168 a1 a2 1 t171 t172 _ ?side1 ?side2 A64.out).mono ?_); (case side1 => repeat (first | exact (Kd.R_reads' HO170.out).2.2 | (with_reducible refine Kd.C_alloc ?_ _) | (with_reducible refine Kd.C_drewN ?_ _) | (with_reducible refine Kd.C_drew ?_))); (case side2 => exact (Kd.R_reads' HO170.out).2.1); rintro e w83 ⟨rfl, hb⟩; have n0_ := Aside0.mk (Kd.R_below (by (with_reducible repeat (first | apply Kd.R_alloc | apply Kd.R_drewN | apply Kd.R_drew)); exact HO170.out) hb); have n1_ := Aside0.mk (below_step (by repeat (first | (with_reducible first | exact HB.out | apply below_alloc | apply pw_below_drewN | apply below_drew1) | exact HB.out)) hb); clear HO170; clear HB; have HO170 := n0_; have HB := n1_; clear n0_ n1_; (try clear hb); (try clear hb2); (try clear hk); (try clear hi))))
             go_ret
             exact ⟨by first | rfl | (simp [errW_none, errW_some] <;> rfl) | (simp [*, errW_none, errW_some] <;> rfl), by repeat (first | (with_reducible first | exact HB.out | apply below_alloc | apply pw_below_drewN | apply below_drew1) | exact HB.out)⟩
     ·rw [if_neg c14] at H
      have c14b0 : (t143 == 0) = false := beq_eq_false_iff_ne.mpr c14
      have c14b1 : (t143 != 0) = true := bne_iff_ne.mpr c14
      by_cases c84 : (t142.length : Int) = 0
      ·rw [if_pos c84] at H
       have c84b0 : ((t142.length : Int) == 0) = true := beq_iff_eq.mpr c84
       have c84b1 : ((t142.length : Int) != 0) = false := bne_eq_false_iff_eq.mpr c84
       clear c84
       rw [A12.out, Option.bind_some] at H
       skip
       replace H : ((sparse_Check.f kj5 t139 a1).bind fun t149 => (some (t149 == t143))) = some r := H
       skip
       skip
       replace H := Option.bind_eq_some_iff.mp H
       obtain ⟨t149, A860, H⟩ := H
       replace H : (some (t149 == t143)) = some r := H
       have A86 := Aside0.mk A860
       clear A860
       obtain rfl := Option.some.inj H
       go_wp2_with (first | (go_at_call 12; (fail_if_success (have := HO141)); (with_reducible refine (coppicelaw13_own.calls _ _ l0 t139 _ ?side1 ?side2 A12.out).mono ?_); (case side1 => repeat (first | exact (Kd.C_below HR0.out HB.out) | (with_reducible refine Kd.C_alloc ?_ _) | (with_reducible refine Kd.C_drewN ?_ _) | (with_reducible refine Kd.C_drew ?_))); (case side2 => exact HC0.out); rintro e w87 ⟨v140, rfl, ho0, hb⟩; have n0_ := Aside0.mk (Kd.R_lower ho0 (below_size (by repeat (first | (with_reducible first | exact HB.out | apply below_alloc | apply pw_below_drewN | apply below_drew1) | exact HB.out)))); have n1_ := Aside0.mk (below_step (by repeat (first | (with_reducible first | exact HB.out | apply below_alloc | apply pw_below_drewN | apply below_drew1) | exact HB.out)) hb); clear HB; have HO141 := n0_; have HB := n1_; clear n0_ n1_; (try clear hb); (try clear hb2); (try clear hk); (try clear hi); (try clear ho0); obtain ⟨Ao88, co88, eo88⟩ := Kd.R_slice HO141.out; subst eo88) | (go_at_call 14; (with_reducible refine (sparse_Ranges.calls kj5 _ _ t139 a1 t142 t143 _ ?side1 ?side2 A13.out).mono ?_); (case side1 => repeat (first | exact (Kd.R_reads' HO141.out).2.2 | (with_reducible refine Kd.C_alloc ?_ _) | (with_reducible refine Kd.C_drewN ?_ _) | (with_reducible refine Kd.C_drew ?_))); (case side2 => exact (Kd.R_reads' HO141.out).2.1); rintro e w89 ⟨v144, rfl, ho0, hb⟩; have n0_ := Aside0.mk (Kd.R_below (by (with_reducible repeat (first | apply Kd.R_alloc | apply Kd.R_drewN | apply Kd.R_drew)); exact HO141.out) hb); have n1_ := Aside0.mk (Kd.R_lower ho0 (below_size (by repeat (first | (with_reducible first | exact HB.out | apply below_alloc | apply pw_below_drewN | apply below_drew1) | exact HB.out)))); have n2_ := Aside0.mk (below_step (by repeat (first | (with_reducible first | exact HB.out | apply below_alloc | apply pw_below_drewN | apply below_drew1) | exact HB.out)) hb); clear HO141; clear HB; have HO141 := n0_; have HO145 := n1_; have HB := n2_; clear n0_ n1_ n2_; (try clear hb); (try clear hb2); (try clear hk); (try clear hi); (try clear ho0); obtain ⟨Ao90, co90, eo90⟩ := Kd.R_slice HO145.out; subst eo90) | (go_at_call 12; (with_reducible refine (coppicelaw13_own.calls _ _ l0 t139 _ ?side1 ?side2 A12.out).mono ?_); (case side1 => repeat (first | exact (Kd.C_below HR0.out HB.out) | (with_reducible refine Kd.C_alloc ?_ _) | (with_reducible refine Kd.C_drewN ?_ _) | (with_reducible refine Kd.C_drew ?_))); (case side2 => exact HC0.out); rintro e w91 ⟨v147, rfl, ho0, hb⟩; have n0_ := Aside0.mk (Kd.R_elder' (by (with_reducible repeat (first | apply Kd.R_alloc | apply Kd.R_drewN | apply Kd.R_drew)); exact HO141.out) (Kd.R_base ho0) hb); have n1_ := Aside0.mk (Kd.R_below (by (with_reducible repeat (first | apply Kd.R_alloc | apply Kd.R_drewN | apply Kd.R_drew)); exact HO145.out) hb); have n2_ := Aside0.mk (Kd.R_lower (Kd.R_new' ho0 (Kd.R_lt (by (with_reducible repeat (first | apply Kd.R_alloc | apply Kd.R_drewN | apply Kd.R_drew)); exact HO141.out))) (below_size (by repeat (first | (with_reducible first | exact HB.out | apply below_alloc | apply pw_below_drewN | apply below_drew1) | exact HB.out)))); have n3_ := Aside0.mk (below_step (by repeat (first | (with_reducible first | exact HB.out | apply below_alloc | apply pw_below_drewN | apply below_drew1) | exact HB.out)) hb); clear HO141; clear HO145; clear HB; have HO141 := n0_; have HO145 := n1_; have HO148 := n2_; have HB := n3_; clear n0_ n1_ n2_ n3_; (try clear hb); (try clear hb2); (try clear hk); (try clear hi); (try clear ho0); obtain ⟨Ao92, co92, eo92⟩ := Kd.R_slice HO148.out; subst eo92) | (go_at_call 15; (with_reducible refine (sparse_Check.calls kj5 _ _ t139 a1 t149 _ ?side1 ?side2 A86.out).mono ?_); (case side1 => repeat (first | exact (Kd.R_reads' HO148.out).2.2 | (with_reducible refine Kd.C_alloc ?_ _) | (with_reducible refine Kd.C_drewN ?_ _) | (with_reducible refine Kd.C_drew ?_))); (case side2 => exact (Kd.R_reads' HO148.out).2.1); rintro e w93 ⟨rfl, hb⟩; have n0_ := Aside0.mk (Kd.R_below (by (with_reducible repeat (first | apply Kd.R_alloc | apply Kd.R_drewN | apply Kd.R_drew)); exact HO141.out) hb); have n1_ := Aside0.mk (Kd.R_below (by (with_reducible repeat (first | apply Kd.R_alloc | apply Kd.R_drewN | apply Kd.R_drew)); exact HO145.out) hb); have n2_ := Aside0.mk (Kd.R_below (by (with_reducible repeat (first | apply Kd.R_alloc | apply Kd.R_drewN | apply Kd.R_drew)); exact HO148.out) hb); have n3_ := Aside0.mk (below_step (by repeat (first | (with_reducible first | exact HB.out | apply below_alloc | apply pw_below_drewN | apply below_drew1) | exact HB.out)) hb); clear HO141; clear HO145; clear HO148; clear HB; have HO141 := n0_; have HO145 := n1_; have HO148 := n2_; have HB := n3_; clear n0_ n1_ n2_ n3_; (try clear hb); (try clear hb2); (try clear hk); (try clear hi)))
       repeat (go_quiet (first | (go_at_call 12; (fail_if_success (have := HO141)); (with_reducible refine (coppicelaw13_own.calls _ _ l0 t139 _ ?side1 ?side2 A12.out).mono ?_); (case side1 => repeat (first | exact (Kd.C_below HR0.out HB.out) | (with_reducible refine Kd.C_alloc ?_ _) | (with_reducible refine Kd.C_drewN ?_ _) | (with_reducible refine Kd.C_drew ?_))); (case side2 => exact HC0.out); rintro e w87 ⟨v140, rfl, ho0, hb⟩; have n0_ := Aside0.mk (Kd.R_lower ho0 (below_size (by repeat (first | (with_reducible first | exact HB.out | apply below_alloc | apply pw_below_drewN | apply below_drew1) | exact HB.out)))); have n1_ := Aside0.mk (below_step (by repeat (first | (with_reducible first | exact HB.out | apply below_alloc | apply pw_below_drewN | apply below_drew1) | exact HB.out)) hb); clear HB; have HO141 := n0_; have HB := n1_; clear n0_ n1_; (try clear hb); (try clear hb2); (try clear hk); (try clear hi); (try clear ho0); obtain ⟨Ao88, co88, eo88⟩ := Kd.R_slice HO141.out; subst eo88) | (go_at_call 14; (fail_if_success (have := HO145)); (with_reducible refine (sparse_Ranges.calls kj5 _ _ t139 a1 t142 t143 _ ?side1 ?side2 A13.out).mono ?_); (case side1 => repeat (first | exact (Kd.R_reads' HO141.out).2.2 | (with_reducible refine Kd.C_alloc ?_ _) | (with_reducible refine Kd.C_drewN ?_ _) | (with_reducible refine Kd.C_drew ?_))); (case side2 => exact (Kd.R_reads' HO141.out).2.1); rintro e w89 ⟨v144, rfl, ho0, hb⟩; have n0_ := Aside0.mk (Kd.R_below (by (with_reducible repeat (first | apply Kd.R_alloc | apply Kd.R_drewN | apply Kd.R_drew)); exact HO141.out) hb); have n1_ := Aside0.mk (Kd.R_lower ho0 (below_size (by repeat (first | (with_reducible first | exact HB.out | apply below_alloc | apply pw_below_drewN | apply below_drew1) | exact HB.out)))); have n2_ := Aside0.mk (below_step (by repeat (first | (with_reducible first | exact HB.out | apply below_alloc | apply pw_below_drewN | apply below_drew1) | exact HB.out)) hb); clear HO141; clear HB; have HO141 := n0_; have HO145 := n1_; have HB := n2_; clear n0_ n1_ n2_; (try clear hb); (try clear hb2); (try clear hk); (try clear hi); (try clear ho0); obtain ⟨Ao90, co90, eo90⟩ := Kd.R_slice HO145.out; subst eo90) | (go_at_call 12; (fail_if_success (have := HO148)); (with_reducible refine (coppicelaw13_own.calls _ _ l0 t139 _ ?side1 ?side2 A12.out).mono ?_); (case side1 => repeat (first | exact (Kd.C_below HR0.out HB.out) | (with_reducible refine Kd.C_alloc ?_ _) | (with_reducible refine Kd.C_drewN ?_ _) | (with_reducible refine Kd.C_drew ?_))); (case side2 => exact HC0.out); rintro e w91 ⟨v147, rfl, ho0, hb⟩; have n0_ := Aside0.mk (Kd.R_elder' (by (with_reducible repeat (first | apply Kd.R_alloc | apply Kd.R_drewN | apply Kd.R_drew)); exact HO141.out) (Kd.R_base ho0) hb); have n1_ := Aside0.mk (Kd.R_below (by (with_reducible repeat (first | apply Kd.R_alloc | apply Kd.R_drewN | apply Kd.R_drew)); exact HO145.out) hb); have n2_ := Aside0.mk (Kd.R_lower (Kd.R_new' ho0 (Kd.R_lt (by (with_reducible repeat (first | apply Kd.R_alloc | apply Kd.R_drewN | apply Kd.R_drew)); exact HO141.out))) (below_size (by repeat (first | (with_reducible first | exact HB.out | apply below_alloc | apply pw_below_drewN | apply below_drew1) | exact HB.out)))); have n3_ := Aside0.mk (below_step (by repeat (first | (with_reducible first | exact HB.out | apply below_alloc | apply pw_below_drewN | apply below_drew1) | exact HB.out)) hb); clear HO141; clear HO145; clear HB; have HO141 := n0_; have HO145 := n1_; have HO148 := n2_; have HB := n3_; clear n0_ n1_ n2_ n3_; (try clear hb); (try clear hb2); (try clear hk); (try clear hi); (try clear ho0); obtain ⟨Ao92, co92, eo92⟩ := Kd.R_slice HO148.out; subst eo92) | (go_at_call 15; (with_reducible refine (sparse_Check.calls kj5 _ _ t139 a1 t149 _ ?side1 ?side2 A86.out).mono ?_); (case side1 => repeat (first | exact (Kd.R_reads' HO148.out).2.2 | (with_reducible refine Kd.C_alloc ?_ _) | (with_reducible refine Kd.C_drewN ?_ _) | (with_reducible refine Kd.C_drew ?_))); (case side2 => exact (Kd.R_reads' HO148.out).2.1); rintro e w93 ⟨rfl, hb⟩; have n0_ := Aside0.mk (Kd.R_below (by (with_reducible repeat (first | apply Kd.R_alloc | apply Kd.R_drewN | apply Kd.R_drew)); exact HO141.out) hb); have n1_ := Aside0.mk (Kd.R_below (by (with_reducible repeat (first | apply Kd.R_alloc | apply Kd.R_drewN | apply Kd.R_drew)); exact HO145.out) hb); have n2_ := Aside0.mk (Kd.R_below (by (with_reducible repeat (first | apply Kd.R_alloc | apply Kd.R_drewN | apply Kd.R_drew)); exact HO148.out) hb); have n3_ := Aside0.mk (below_step (by repeat (first | (with_reducible first | exact HB.out | apply below_alloc | apply pw_below_drewN | apply below_drew1) | exact HB.out)) hb); clear HO141; clear HO145; clear HO148; clear HB; have HO141 := n0_; have HO145 := n1_; have HO148 := n2_; have HB := n3_; clear n0_ n1_ n2_ n3_; (try clear hb); (try clear hb2); (try clear hk); (try clear hi))); try go_wp2_with (first | (go_at_call 12; (fail_if_success (have := HO141)); (with_reducible refine (coppicelaw13_own.calls _ _ l0 t139 _ ?side1 ?side2 A12.out).mono ?_); (case side1 => repeat (first | exact (Kd.C_below HR0.out HB.out) | (with_reducible refine Kd.C_alloc ?_ _) | (with_reducible refine Kd.C_drewN ?_ _) | (with_reducible refine Kd.C_drew ?_))); (case side2 => exact HC0.out); rintro e w87 ⟨v140, rfl, ho0, hb⟩; have n0_ := Aside0.mk (Kd.R_lower ho0 (below_size (by repeat (first | (with_reducible first | exact HB.out | apply below_alloc | apply pw_below_drewN | apply below_drew1) | exact HB.out)))); have n1_ := Aside0.mk (below_step (by repeat (first | (with_reducible first | exact HB.out | apply below_alloc | apply pw_below_drewN | apply below_drew1) | exact HB.out)) hb); clear HB; have HO141 := n0_; have HB := n1_; clear n0_ n1_; (try clear hb); (try clear hb2); (try clear hk); (try clear hi); (try clear ho0); obtain ⟨Ao88, co88, eo88⟩ := Kd.R_slice HO141.out; subst eo88) | (go_at_call 14; (with_reducible refine (sparse_Ranges.calls kj5 _ _ t139 a1 t142 t143 _ ?side1 ?side2 A13.out).mono ?_); (case side1 => repeat (first | exact (Kd.R_reads' HO141.out).2.2 | (with_reducible refine Kd.C_alloc ?_ _) | (with_reducible refine Kd.C_drewN ?_ _) | (with_reducible refine Kd.C_drew ?_))); (case side2 => exact (Kd.R_reads' HO141.out).2.1); rintro e w89 ⟨v144, rfl, ho0, hb⟩; have n0_ := Aside0.mk (Kd.R_below (by (with_reducible repeat (first | apply Kd.R_alloc | apply Kd.R_drewN | apply Kd.R_drew)); exact HO141.out) hb); have n1_ := Aside0.mk (Kd.R_lower ho0 (below_size (by repeat (first | (with_reducible first | exact HB.out | apply below_alloc | apply pw_below_drewN | apply below_drew1) | exact HB.out)))); have n2_ := Aside0.mk (below_step (by repeat (first | (with_reducible first | exact HB.out | apply below_alloc | apply pw_below_drewN | apply below_drew1) | exact HB.out)) hb); clear HO141; clear HB; have HO141 := n0_; have HO145 := n1_; have HB := n2_; clear n0_ n1_ n2_; (try clear hb); (try clear hb2); (try clear hk); (try clear hi); (try clear ho0); obtain ⟨Ao90, co90, eo90⟩ := Kd.R_slice HO145.out; subst eo90) | (go_at_call 12; (with_reducible refine (coppicelaw13_own.calls _ _ l0 t139 _ ?side1 ?side2 A12.out).mono ?_); (case side1 => repeat (first | exact (Kd.C_below HR0.out HB.out) | (with_reducible refine Kd.C_alloc ?_ _) | (with_reducible refine Kd.C_drewN ?_ _) | (with_reducible refine Kd.C_drew ?_))); (case side2 => exact HC0.out); rintro e w91 ⟨v147, rfl, ho0, hb⟩; have n0_ := Aside0.mk (Kd.R_elder' (by (with_reducible repeat (first | apply Kd.R_alloc | apply Kd.R_drewN | apply Kd.R_drew)); exact HO141.out) (Kd.R_base ho0) hb); have n1_ := Aside0.mk (Kd.R_below (by (with_reducible repeat (first | apply Kd.R_alloc | apply Kd.R_drewN | apply Kd.R_drew)); exact HO145.out) hb); have n2_ := Aside0.mk (Kd.R_lower (Kd.R_new' ho0 (Kd.R_lt (by (with_reducible repeat (first | apply Kd.R_alloc | apply Kd.R_drewN | apply Kd.R_drew)); exact HO141.out))) (below_size (by repeat (first | (with_reducible first | exact HB.out | apply below_alloc | apply pw_below_drewN | apply below_drew1) | exact HB.out)))); have n3_ := Aside0.mk (below_step (by repeat (first | (with_reducible first | exact HB.out | apply below_alloc | apply pw_below_drewN | apply below_drew1) | exact HB.out)) hb); clear HO141; clear HO145; clear HB; have HO141 := n0_; have HO145 := n1_; have HO148 := n2_; have HB := n3_; clear n0_ n1_ n2_ n3_; (try clear hb); (try clear hb2); (try clear hk); (try clear hi); (try clear ho0); obtain ⟨Ao92, co92, eo92⟩ := Kd.R_slice HO148.out; subst eo92) | (go_at_call 15; (with_reducible refine (sparse_Check.calls kj5 _ _ t139 a1 t149 _ ?side1 ?side2 A86.out).mono ?_); (case side1 => repeat (first | exact (Kd.R_reads' HO148.out).2.2 | (with_reducible refine Kd.C_alloc ?_ _) | (with_reducible refine Kd.C_drewN ?_ _) | (with_reducible refine Kd.C_drew ?_))); (case side2 => exact (Kd.R_reads' HO148.out).2.1); rintro e w93 ⟨rfl, hb⟩; have n0_ := Aside0.mk (Kd.R_below (by (with_reducible repeat (first | apply Kd.R_alloc | apply Kd.R_drewN | apply Kd.R_drew)); exact HO141.out) hb); have n1_ := Aside0.mk (Kd.R_below (by (with_reducible repeat (first | apply Kd.R_alloc | apply Kd.R_drewN | apply Kd.R_drew)); exact HO145.out) hb); have n2_ := Aside0.mk (Kd.R_below (by (with_reducible repeat (first | apply Kd.R_alloc | apply Kd.R_drewN | apply Kd.R_drew)); exact HO148.out) hb); have n3_ := Aside0.mk (below_step (by repeat (first | (with_reducible first | exact HB.out | apply below_alloc | apply pw_below_drewN | apply below_drew1) | exact HB.out)) hb); clear HO141; clear HO145; clear HO148; clear HB; have HO141 := n0_; have HO145 := n1_; have HO148 := n2_; have HB := n3_; clear n0_ n1_ n2_ n3_; (try clear hb); (try clear hb2); (try clear hk); (try clear hi))))
       go_ret
       exact ⟨by first | rfl | (simp [errW_none, errW_some] <;> rfl) | (simp [*, errW_none, errW_some] <;> rfl), by repeat (first | (with_reducible first | exact HB.out | apply below_alloc | apply pw_below_drewN | apply below_drew1) | exact HB.out)⟩
      ·rw [if_neg c84] at H
       have c84b0 : ((t142.length : Int) == 0) = false := beq_eq_false_iff_ne.mpr c84
       have c84b1 : ((t142.length : Int) != 0) = true := bne_iff_ne.mpr c84
       have c84b2 : ¬ (t142 = []) := fun h_ => c84 (by rw [h_]; rfl)
       obtain rfl := Option.some.inj H
       go_wp2_with (first | (go_at_call 12; (with_reducible refine (coppicelaw13_own.calls _ _ l0 t139 _ ?side1 ?side2 A12.out).mono ?_); (case side1 => repeat (first | exact (Kd.C_below HR0.out HB.out) | (with_reducible refine Kd.C_alloc ?_ _) | (with_reducible refine Kd.C_drewN ?_ _) | (with_reducible refine Kd.C_drew ?_))); (case side2 => exact HC0.out); rintro e w94 ⟨v140, rfl, ho0, hb⟩; have n0_ := Aside0.mk (Kd.R_lower ho0 (below_size (by repeat (first | (with_reducible first | exact HB.out | apply below_alloc | apply pw_below_drewN | apply below_drew1) | exact HB.out)))); have n1_ := Aside0.mk (below_step (by repeat (first | (with_reducible first | exact HB.out | apply below_alloc | apply pw_below_drewN | apply below_drew1) | exact HB.out)) hb); clear HB; have HO141 := n0_; have HB := n1_; clear n0_ n1_; (try clear hb); (try clear hb2); (try clear hk); (try clear hi); (try clear ho0); obtain ⟨Ao95, co95, eo95⟩ := Kd.R_slice HO141.out; subst eo95) | (go_at_call 14; (with_reducible refine (sparse_Ranges.calls kj5 _ _ t139 a1 t142 t143 _ ?side1 ?side2 A13.out).mono ?_); (case side1 => repeat (first | exact (Kd.R_reads' HO141.out).2.2 | (with_reducible refine Kd.C_alloc ?_ _) | (with_reducible refine Kd.C_drewN ?_ _) | (with_reducible refine Kd.C_drew ?_))); (case side2 => exact (Kd.R_reads' HO141.out).2.1); rintro e w96 ⟨v144, rfl, ho0, hb⟩; have n0_ := Aside0.mk (Kd.R_below (by (with_reducible repeat (first | apply Kd.R_alloc | apply Kd.R_drewN | apply Kd.R_drew)); exact HO141.out) hb); have n1_ := Aside0.mk (Kd.R_lower ho0 (below_size (by repeat (first | (with_reducible first | exact HB.out | apply below_alloc | apply pw_below_drewN | apply below_drew1) | exact HB.out)))); have n2_ := Aside0.mk (below_step (by repeat (first | (with_reducible first | exact HB.out | apply below_alloc | apply pw_below_drewN | apply below_drew1) | exact HB.out)) hb); clear HO141; clear HB; have HO141 := n0_; have HO145 := n1_; have HB := n2_; clear n0_ n1_ n2_; (try clear hb); (try clear hb2); (try clear hk); (try clear hi); (try clear ho0); obtain ⟨Ao97, co97, eo97⟩ := Kd.R_slice HO145.out; subst eo97))
       repeat (go_quiet (first | (go_at_call 12; (fail_if_success (have := HO141)); (with_reducible refine (coppicelaw13_own.calls _ _ l0 t139 _ ?side1 ?side2 A12.out).mono ?_); (case side1 => repeat (first | exact (Kd.C_below HR0.out HB.out) | (with_reducible refine Kd.C_alloc ?_ _) | (with_reducible refine Kd.C_drewN ?_ _) | (with_reducible refine Kd.C_drew ?_))); (case side2 => exact HC0.out); rintro e w94 ⟨v140, rfl, ho0, hb⟩; have n0_ := Aside0.mk (Kd.R_lower ho0 (below_size (by repeat (first | (with_reducible first | exact HB.out | apply below_alloc | apply pw_below_drewN | apply below_drew1) | exact HB.out)))); have n1_ := Aside0.mk (below_step (by repeat (first | (with_reducible first | exact HB.out | apply below_alloc | apply pw_below_drewN | apply below_drew1) | exact HB.out)) hb); clear HB; have HO141 := n0_; have HB := n1_; clear n0_ n1_; (try clear hb); (try clear hb2); (try clear hk); (try clear hi); (try clear ho0); obtain ⟨Ao95, co95, eo95⟩ := Kd.R_slice HO141.out; subst eo95) | (go_at_call 14; (fail_if_success (have := HO145)); (with_reducible refine (sparse_Ranges.calls kj5 _ _ t139 a1 t142 t143 _ ?side1 ?side2 A13.out).mono ?_); (case side1 => repeat (first | exact (Kd.R_reads' HO141.out).2.2 | (with_reducible refine Kd.C_alloc ?_ _) | (with_reducible refine Kd.C_drewN ?_ _) | (with_reducible refine Kd.C_drew ?_))); (case side2 => exact (Kd.R_reads' HO141.out).2.1); rintro e w96 ⟨v144, rfl, ho0, hb⟩; have n0_ := Aside0.mk (Kd.R_below (by (with_reducible repeat (first | apply Kd.R_alloc | apply Kd.R_drewN | apply Kd.R_drew)); exact HO141.out) hb); have n1_ := Aside0.mk (Kd.R_lower ho0 (below_size (by repeat (first | (with_reducible first | exact HB.out | apply below_alloc | apply pw_below_drewN | apply below_drew1) | exact HB.out)))); have n2_ := Aside0.mk (below_step (by repeat (first | (with_reducible first | exact HB.out | apply below_alloc | apply pw_below_drewN | apply below_drew1) | exact HB.out)) hb); clear HO141; clear HB; have HO141 := n0_; have HO145 := n1_; have HB := n2_; clear n0_ n1_ n2_; (try clear hb); (try clear hb2); (try clear hk); (try clear hi); (try clear ho0); obtain ⟨Ao97, co97, eo97⟩ := Kd.R_slice HO145.out; subst eo97)); try go_wp2_with (first | (go_at_call 12; (with_reducible refine (coppicelaw13_own.calls _ _ l0 t139 _ ?side1 ?side2 A12.out).mono ?_); (case side1 => repeat (first | exact (Kd.C_below HR0.out HB.out) | (with_reducible refine Kd.C_alloc ?_ _) | (with_reducible refine Kd.C_drewN ?_ _) | (with_reducible refine Kd.C_drew ?_))); (case side2 => exact HC0.out); rintro e w94 ⟨v140, rfl, ho0, hb⟩; have n0_ := Aside0.mk (Kd.R_lower ho0 (below_size (by repeat (first | (with_reducible first | exact HB.out | apply below_alloc | apply pw_below_drewN | apply below_drew1) | exact HB.out)))); have n1_ := Aside0.mk (below_step (by repeat (first | (with_reducible first | exact HB.out | apply below_alloc | apply pw_below_drewN | apply below_drew1) | exact HB.out)) hb); clear HB; have HO141 := n0_; have HB := n1_; clear n0_ n1_; (try clear hb); (try clear hb2); (try clear hk); (try clear hi); (try clear ho0); obtain ⟨Ao95, co95, eo95⟩ := Kd.R_slice HO141.out; subst eo95) | (go_at_call 14; (with_reducible refine (sparse_Ranges.calls kj5 _ _ t139 a1 t142 t143 _ ?side1 ?side2 A13.out).mono ?_); (case side1 => repeat (first | exact (Kd.R_reads' HO141.out).2.2 | (with_reducible refine Kd.C_alloc ?_ _) | (with_reducible refine Kd.C_drewN ?_ _) | (with_reducible refine Kd.C_drew ?_))); (case side2 => exact (Kd.R_reads' HO141.out).2.1); rintro e w96 ⟨v144, rfl, ho0, hb⟩; have n0_ := Aside0.mk (Kd.R_below (by (with_reducible repeat (first | apply Kd.R_alloc | apply Kd.R_drewN | apply Kd.R_drew)); exact HO141.out) hb); have n1_ := Aside0.mk (Kd.R_lower ho0 (below_size (by repeat (first | (with_reducible first | exact HB.out | apply below_alloc | apply pw_below_drewN | apply below_drew1) | exact HB.out)))); have n2_ := Aside0.mk (below_step (by repeat (first | (with_reducible first | exact HB.out | apply below_alloc | apply pw_below_drewN | apply below_drew1) | exact HB.out)) hb); clear HO141; clear HB; have HO141 := n0_; have HO145 := n1_; have HB := n2_; clear n0_ n1_ n2_; (try clear hb); (try clear hb2); (try clear hk); (try clear hi); (try clear ho0); obtain ⟨Ao97, co97, eo97⟩ := Kd.R_slice HO145.out; subst eo97)))
       go_ret
       exact ⟨by first | rfl | (simp [errW_none, errW_some] <;> rfl) | (simp [*, errW_none, errW_some] <;> rfl), by repeat (first | (with_reducible first | exact HB.out | apply below_alloc | apply pw_below_drewN | apply below_drew1) | exact HB.out)⟩
 ·replace c5 := Bool.eq_false_iff.mpr c5
  subst c5
  have H1 : (some false) = some r := by rw [if_neg (show ¬ (false = true) by decide)] at H; exact H
  clear H
  have H := H1
  clear H1
  obtain rfl := Option.some.inj H
  go_enter Tryd.func4, Tryd.ntmps4
  go_wp2_with (first | (go_at_call 9; (with_reducible refine (coppicelaw13_awake.calls k  false _ A4.out).mono ?_); rintro e w98 ⟨rfl, hb⟩; have n0_ := Aside0.mk (below_step (by repeat (first | (with_reducible first | exact HB.out | apply below_alloc | apply pw_below_drewN | apply below_drew1) | exact HB.out)) hb); clear HB; have HB := n0_; clear n0_; (try clear hb); (try clear hb2); (try clear hk); (try clear hi)))
  repeat (go_quiet (first | (go_at_call 9; (with_reducible refine (coppicelaw13_awake.calls k  false _ A4.out).mono ?_); rintro e w98 ⟨rfl, hb⟩; have n0_ := Aside0.mk (below_step (by repeat (first | (with_reducible first | exact HB.out | apply below_alloc | apply pw_below_drewN | apply below_drew1) | exact HB.out)) hb); clear HB; have HB := n0_; clear n0_; (try clear hb); (try clear hb2); (try clear hk); (try clear hi))); try go_wp2_with (first | (go_at_call 9; (with_reducible refine (coppicelaw13_awake.calls k  false _ A4.out).mono ?_); rintro e w98 ⟨rfl, hb⟩; have n0_ := Aside0.mk (below_step (by repeat (first | (with_reducible first | exact HB.out | apply below_alloc | apply pw_below_drewN | apply below_drew1) | exact HB.out)) hb); clear HB; have HB := n0_; clear n0_; (try clear hb); (try clear hb2); (try clear hk); (try clear hi))))
  go_ret
  exact ⟨by first | rfl | (simp [errW_none, errW_some] <;> rfl) | (simp [*, errW_none, errW_some] <;> rfl), by repeat (first | (with_reducible first | exact HB.out | apply below_alloc | apply pw_below_drewN | apply below_drew1) | exact HB.out)⟩

/-- The bounds of a value of struct type 39. -/
def wf39 (x : S39) : Prop := (Lit.int .i64 x.f0).wf = true ∧ x.f1.size ≤ maxLen
/-- THE ONE PURE STATEMENT of coppicelaw13_SparseRanges. -/
def coppicelaw13_SparseRanges.Pure : Prop := ∀ (x0 : List (S39)) (x1 : Int) (x2 : Int), (x0.length ≤ maxLen ∧ ∀ y0 ∈ x0, wf39 y0) → (Lit.int .i64 x1).wf = true → (Lit.int .i64 x2).wf = true → ∃ k, coppicelaw13_SparseRanges.f k x0 x1 x2 = some true

end Go.Proofs.YtgnffienfjigiaaDoor.PA
