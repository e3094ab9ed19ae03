-- WRITTEN BY a program of this session (pp.sh)
import Derived.Test.YtgnffienfjigiaaDoorPAx0
import Derived.Test.YtgnffienfjigiaaDoorPAx5
import Derived.Test.YtgnffienfjigiaaDoorPAx6
import Derived.Test.YtgnffienfjigiaaDoorPAx7
import Derived.Test.YtgnffienfjigiaaDoorPAx8
namespace Go.Proofs.YtgnffienfjigiaaDoor.PA
open Go.RowKit Go.Proofs.YtgnffienfjigiaaDoorW.PrintWords Go.Proofs.YtgnffienfjigiaaDoorW.PrintLast Go.Proofs.YtgnffienfjigiaaDoorW.PrintMore Go.Proofs.YtgnffienfjigiaaDoor.Plain
attribute [local go_sem] max2_int min2_int max_two min_two max_three min_three max_four min_four binOp_leq_s binOp_gtr_s binOp_geq_s lit_byte   -- for this text's walks alone
set_option linter.unusedVariables false
set_option linter.unusedSimpArgs false

/-! ### coppicelaw13_SparseWrites: function 3 -/
mutual
def coppicelaw13_SparseWrites.j0 : Nat → List (S39) → Int → Int → ByteArray → Int → Int → Bool → Option (Bool)
 | 0, _, _, _, _, _, _, _ => none
 | k + 1, x0, x1, x2, x3, x4, x5, x44 => if x44 = true then (some true) else ((coppicelaw13_own.f x0).bind fun t128 => ((sparse_Write.f k t128 x1 x2 x3).bind fun bt131 => (if bt131.2.2 = 0 then ((sparse_Read.f k bt131.1 bt131.2.1 x2 (x3.size : Int)).bind fun bt136 => ((coppicelaw13_own.f x0).bind fun t138 => ((sparse_Read.f k t138 x1 x4 x5).bind fun bt141 => ((sparse_Read.f k bt131.1 bt131.2.1 x4 x5).bind fun bt143 => (if bt136.2 = 0 then (if bt141.2 = 0 then (if bt143.2 = 0 then (if bt136.1.toList = x3.toList then (coppicelaw13_SparseWrites.j1 k x2 x3 x4 bt141.1 bt143.1 (decide ((bt143.1.size : Int) < (bt141.1.size : Int)))) else (coppicelaw13_SparseWrites.j1 k x2 x3 x4 bt141.1 bt143.1 true)) else (coppicelaw13_SparseWrites.j1 k x2 x3 x4 bt141.1 bt143.1 true)) else (coppicelaw13_SparseWrites.j1 k x2 x3 x4 bt141.1 bt143.1 true)) else (coppicelaw13_SparseWrites.j1 k x2 x3 x4 bt141.1 bt143.1 true)))))) else (if (bt131.1.length : Int) = 0 then (some (bt131.2.1 == 0)) else (some false)))))
def coppicelaw13_SparseWrites.j1 : Nat → Int → ByteArray → Int → ByteArray → ByteArray → Bool → Option (Bool)
 | 0, _, _, _, _, _, _ => none
 | k + 1, x2, x3, x4, x18, x20, x111 => if x111 = true then (some false) else (coppicelaw13_SparseWrites.l0 k x2 x3 x4 x18 x20 0)
def coppicelaw13_SparseWrites.l0 : Nat → Int → ByteArray → Int → ByteArray → ByteArray → Int → Option (Bool)
 | 0, _, _, _, _, _, _ => none
 | k + 1, x2, x3, x4, x18, x20, x22 => if x22 < (x20.size : Int) then (if (wrap64 (x4 + x22)) ≥ x2 then (coppicelaw13_SparseWrites.j3 k x2 x3 x4 x18 x20 x22 (wrap64 (x4 + x22)) (decide ((wrap64 ((wrap64 (x4 + x22)) - x2)) < (x3.size : Int)))) else (coppicelaw13_SparseWrites.j3 k x2 x3 x4 x18 x20 x22 (wrap64 (x4 + x22)) false)) else (some true)
def coppicelaw13_SparseWrites.j3 : Nat → Int → ByteArray → Int → ByteArray → ByteArray → Int → Int → Bool → Option (Bool)
 | 0, _, _, _, _, _, _, _, _ => none
 | k + 1, x2, x3, x4, x18, x20, x22, x23, x131 => if x131 = true then (if 0 ≤ x22 then (if x22 < (x20.size : Int) then (if 0 ≤ (wrap64 (x23 - x2)) then (if (wrap64 (x23 - x2)) < (x3.size : Int) then (if (bt x20 x22) = (bt x3 (wrap64 (x23 - x2))) then (coppicelaw13_SparseWrites.l0 k x2 x3 x4 x18 x20 (wrap64 (x22 + 1))) else (some false)) else (none)) else (none)) else (none)) else (none)) else (if x22 < (x18.size : Int) then (if 0 ≤ x22 then (if x22 < (x20.size : Int) then (if (bt x20 x22) = (bt x18 x22) then (if x22 ≥ (x18.size : Int) then (if (bt x20 x22) = 0 then (coppicelaw13_SparseWrites.l0 k x2 x3 x4 x18 x20 (wrap64 (x22 + 1))) else (some false)) else (coppicelaw13_SparseWrites.l0 k x2 x3 x4 x18 x20 (wrap64 (x22 + 1)))) else (some false)) else (none)) else (none)) else (if x22 ≥ (x18.size : Int) then (if 0 ≤ x22 then (if x22 < (x20.size : Int) then (if (bt x20 x22) = 0 then (coppicelaw13_SparseWrites.l0 k x2 x3 x4 x18 x20 (wrap64 (x22 + 1))) else (some false)) else (none)) else (none)) else (coppicelaw13_SparseWrites.l0 k x2 x3 x4 x18 x20 (wrap64 (x22 + 1)))))
end
def coppicelaw13_SparseWrites.f (k : Nat) (l0 : List (S39)) (a1 : Int) (a2 : Int) (a3 : ByteArray) (a4 : Int) (a5 : Int) : Option (Bool) := (coppicelaw13_awake.f k).bind fun t126 => (if t126 = true then ((coppiceref13_Great.f k l0).bind fun t127 => (if t127 = true then (coppicelaw13_SparseWrites.j0 k l0 a1 a2 a3 a4 a5 true) else (if (a3.size : Int) > 4096 then (coppicelaw13_SparseWrites.j0 k l0 a1 a2 a3 a4 a5 true) else (if a4 < 0 then (coppicelaw13_SparseWrites.j0 k l0 a1 a2 a3 a4 a5 true) else (if a5 < 0 then (coppicelaw13_SparseWrites.j0 k l0 a1 a2 a3 a4 a5 true) else (coppicelaw13_SparseWrites.j0 k l0 a1 a2 a3 a4 a5 (decide (a5 > 4096)))))))) else (some false))
theorem coppicelaw13_SparseWrites.mono_l : ∀ k, (∀ y0 y1 y2 y3 y4 y5 y6, LeO (coppicelaw13_SparseWrites.j0 k y0 y1 y2 y3 y4 y5 y6) (coppicelaw13_SparseWrites.j0 (k + 1) y0 y1 y2 y3 y4 y5 y6)) ∧ (∀ y0 y1 y2 y3 y4 y5, LeO (coppicelaw13_SparseWrites.j1 k y0 y1 y2 y3 y4 y5) (coppicelaw13_SparseWrites.j1 (k + 1) y0 y1 y2 y3 y4 y5)) ∧ (∀ y0 y1 y2 y3 y4 y5, LeO (coppicelaw13_SparseWrites.l0 k y0 y1 y2 y3 y4 y5) (coppicelaw13_SparseWrites.l0 (k + 1) y0 y1 y2 y3 y4 y5)) ∧ (∀ y0 y1 y2 y3 y4 y5 y6 y7, LeO (coppicelaw13_SparseWrites.j3 k y0 y1 y2 y3 y4 y5 y6 y7) (coppicelaw13_SparseWrites.j3 (k + 1) y0 y1 y2 y3 y4 y5 y6 y7))
 | 0 => ⟨fun _ _ _ _ _ _ _ r h => by simp [coppicelaw13_SparseWrites.j0] at h, fun _ _ _ _ _ _ r h => by simp [coppicelaw13_SparseWrites.j1] at h, fun _ _ _ _ _ _ r h => by simp [coppicelaw13_SparseWrites.l0] at h, fun _ _ _ _ _ _ _ _ r h => by simp [coppicelaw13_SparseWrites.j3] at h⟩
 | k + 1 => by
  obtain ⟨ih0, ih1, ih2, ih3⟩ := coppicelaw13_SparseWrites.mono_l k
  refine ⟨?_, ?_, ?_, ?_⟩
  ·intro y0 y1 y2 y3 y4 y5 y6
   unfold coppicelaw13_SparseWrites.j0
   repeat' first
   | (with_reducible exact ih0 _ _ _ _ _ _ _)
   | (with_reducible exact ih1 _ _ _ _ _ _)
   | (with_reducible exact ih2 _ _ _ _ _ _)
   | (with_reducible exact ih3 _ _ _ _ _ _ _ _)
   | (with_reducible exact coppicelaw13_awake.mono _)
   | (with_reducible exact coppiceref13_Great.mono _ _)
   | (with_reducible exact sparse_Read.mono _ _ _ _ _)
   | (with_reducible exact sparse_Write.mono _ _ _ _ _)
   | (with_reducible exact LeO.refl _)
   | (with_reducible exact LeO.none _)
   | (with_reducible refine LeO.ite ?_ ?_)
   | (with_reducible refine LeO.bind ?_ (fun _ => ?_))
   | exact ih0 _ _ _ _ _ _ _
   | exact ih1 _ _ _ _ _ _
   | exact ih2 _ _ _ _ _ _
   | exact ih3 _ _ _ _ _ _ _ _
   | exact coppicelaw13_awake.mono _
   | exact coppiceref13_Great.mono _ _
   | exact sparse_Read.mono _ _ _ _ _
   | exact sparse_Write.mono _ _ _ _ _
   | exact LeO.none _
   | refine LeO.ite ?_ ?_
   | refine LeO.bind ?_ (fun _ => ?_)
  ·intro y0 y1 y2 y3 y4 y5
   unfold coppicelaw13_SparseWrites.j1
   repeat' first
   | (with_reducible exact ih0 _ _ _ _ _ _ _)
   | (with_reducible exact ih1 _ _ _ _ _ _)
   | (with_reducible exact ih2 _ _ _ _ _ _)
   | (with_reducible exact ih3 _ _ _ _ _ _ _ _)
   | (with_reducible exact coppicelaw13_awake.mono _)
   | (with_reducible exact coppiceref13_Great.mono _ _)
   | (with_reducible exact sparse_Read.mono _ _ _ _ _)
   | (with_reducible exact sparse_Write.mono _ _ _ _ _)
   | (with_reducible exact LeO.refl _)
   | (with_reducible exact LeO.none _)
   | (with_reducible refine LeO.ite ?_ ?_)
   | (with_reducible refine LeO.bind ?_ (fun _ => ?_))
   | exact ih0 _ _ _ _ _ _ _
   | exact ih1 _ _ _ _ _ _
   | exact ih2 _ _ _ _ _ _
   | exact ih3 _ _ _ _ _ _ _ _
   | exact coppicelaw13_awake.mono _
   | exact coppiceref13_Great.mono _ _
   | exact sparse_Read.mono _ _ _ _ _
   | exact sparse_Write.mono _ _ _ _ _
   | exact LeO.none _
   | refine LeO.ite ?_ ?_
   | refine LeO.bind ?_ (fun _ => ?_)
  ·intro y0 y1 y2 y3 y4 y5
   unfold coppicelaw13_SparseWrites.l0
   repeat' first
   | (with_reducible exact ih0 _ _ _ _ _ _ _)
   | (with_reducible exact ih1 _ _ _ _ _ _)
   | (with_reducible exact ih2 _ _ _ _ _ _)
   | (with_reducible exact ih3 _ _ _ _ _ _ _ _)
   | (with_reducible exact coppicelaw13_awake.mono _)
   | (with_reducible exact coppiceref13_Great.mono _ _)
   | (with_reducible exact sparse_Read.mono _ _ _ _ _)
   | (with_reducible exact sparse_Write.mono _ _ _ _ _)
   | (with_reducible exact LeO.refl _)
   | (with_reducible exact LeO.none _)
   | (with_reducible refine LeO.ite ?_ ?_)
   | (with_reducible refine LeO.bind ?_ (fun _ => ?_))
   | exact ih0 _ _ _ _ _ _ _
   | exact ih1 _ _ _ _ _ _
   | exact ih2 _ _ _ _ _ _
   | exact ih3 _ _ _ _ _ _ _ _
   | exact coppicelaw13_awake.mono _
   | exact coppiceref13_Great.mono _ _
   | exact sparse_Read.mono _ _ _ _ _
   | exact sparse_Write.mono _ _ _ _ _
   | exact LeO.none _
   | refine LeO.ite ?_ ?_
   | refine LeO.bind ?_ (fun _ => ?_)
  ·intro y0 y1 y2 y3 y4 y5 y6 y7
   unfold coppicelaw13_SparseWrites.j3
   repeat' first
   | (with_reducible exact ih0 _ _ _ _ _ _ _)
   | (with_reducible exact ih1 _ _ _ _ _ _)
   | (with_reducible exact ih2 _ _ _ _ _ _)
   | (with_reducible exact ih3 _ _ _ _ _ _ _ _)
   | (with_reducible exact coppicelaw13_awake.mono _)
   | (with_reducible exact coppiceref13_Great.mono _ _)
   | (with_reducible exact sparse_Read.mono _ _ _ _ _)
   | (with_reducible exact sparse_Write.mono _ _ _ _ _)
   | (with_reducible exact LeO.refl _)
   | (with_reducible exact LeO.none _)
   | (with_reducible refine LeO.ite ?_ ?_)
   | (with_reducible refine LeO.bind ?_ (fun _ => ?_))
   | exact ih0 _ _ _ _ _ _ _
   | exact ih1 _ _ _ _ _ _
   | exact ih2 _ _ _ _ _ _
   | exact ih3 _ _ _ _ _ _ _ _
   | exact coppicelaw13_awake.mono _
   | exact coppiceref13_Great.mono _ _
   | exact sparse_Read.mono _ _ _ _ _
   | exact sparse_Write.mono _ _ _ _ _
   | exact LeO.none _
   | refine LeO.ite ?_ ?_
   | refine LeO.bind ?_ (fun _ => ?_)
theorem coppicelaw13_SparseWrites.mono : ∀ a0 a1 a2 a3 a4 a5 k, LeO (coppicelaw13_SparseWrites.f k a0 a1 a2 a3 a4 a5) (coppicelaw13_SparseWrites.f (k + 1) a0 a1 a2 a3 a4 a5) := by
 intro a0 a1 a2 a3 a4 a5 k
 obtain ⟨ih0, ih1, ih2, ih3⟩ := coppicelaw13_SparseWrites.mono_l k
 unfold coppicelaw13_SparseWrites.f
 repeat' first
   | (with_reducible exact ih0 _ _ _ _ _ _ _)
   | (with_reducible exact ih1 _ _ _ _ _ _)
   | (with_reducible exact ih2 _ _ _ _ _ _)
   | (with_reducible exact ih3 _ _ _ _ _ _ _ _)
   | (with_reducible exact coppicelaw13_awake.mono _)
   | (with_reducible exact coppiceref13_Great.mono _ _)
   | (with_reducible exact sparse_Read.mono _ _ _ _ _)
   | (with_reducible exact sparse_Write.mono _ _ _ _ _)
   | (with_reducible exact LeO.refl _)
   | (with_reducible exact LeO.none _)
   | (with_reducible refine LeO.ite ?_ ?_)
   | (with_reducible refine LeO.bind ?_ (fun _ => ?_))
   | exact ih0 _ _ _ _ _ _ _
   | exact ih1 _ _ _ _ _ _
   | exact ih2 _ _ _ _ _ _
   | exact ih3 _ _ _ _ _ _ _ _
   | exact coppicelaw13_awake.mono _
   | exact coppiceref13_Great.mono _ _
   | exact sparse_Read.mono _ _ _ _ _
   | exact sparse_Write.mono _ _ _ _ _
   | exact LeO.none _
   | refine LeO.ite ?_ ?_
   | refine LeO.bind ?_ (fun _ => ?_)
set_option maxHeartbeats 8000000 in
set_option maxRecDepth 100000 in
theorem coppicelaw13_SparseWrites.calls (k : Nat) (A0 : Option Addr) (c0 : Nat) (l0 : List (S39)) (a1 : Int) (a2 : Int) (a3 : ByteArray) (a4 : Int) (a5 : Int) (r : Bool) (w : World) (hr0 : Kd.C k39 w A0 l0.length l0) (hc0 : l0.length ≤ c0) (h : coppicelaw13_SparseWrites.f k l0 a1 a2 a3 a4 a5 = some r) :
  Calls Tryd.prog 3 #[.slice A0 l0.length c0, .int .i64 a1, .int .i64 a2, .string a3, .int .i64 a4, .int .i64 a5] w fun e w' => e = .returned (.bool r) ∧ Below w.heap.size w w' := by
 have HR0 := Aside0.mk hr0
 have HC0 := Aside0.mk hc0
 clear hr0 hc0
 have HB := Aside0.mk (Below.refl w.heap.size w)
 have H : ((coppicelaw13_awake.f k).bind fun t126 => (if t126 = true then ((coppiceref13_Great.f k l0).bind fun t127 => (if t127 = true then (coppicelaw13_SparseWrites.j0 k l0 a1 a2 a3 a4 a5 true) else (if (a3.size : Int) > 4096 then (coppicelaw13_SparseWrites.j0 k l0 a1 a2 a3 a4 a5 true) else (if a4 < 0 then (coppicelaw13_SparseWrites.j0 k l0 a1 a2 a3 a4 a5 true) else (if a5 < 0 then (coppicelaw13_SparseWrites.j0 k l0 a1 a2 a3 a4 a5 true) else (coppicelaw13_SparseWrites.j0 k l0 a1 a2 a3 a4 a5 (decide (a5 > 4096)))))))) else (some false))) = some r := h
 clear h
 replace H := Option.bind_eq_some_iff.mp H
 obtain ⟨t126, A70, H⟩ := H
 replace H : (if t126 = true then ((coppiceref13_Great.f k l0).bind fun t127 => (if t127 = true then (coppicelaw13_SparseWrites.j0 k l0 a1 a2 a3 a4 a5 true) else (if (a3.size : Int) > 4096 then (coppicelaw13_SparseWrites.j0 k l0 a1 a2 a3 a4 a5 true) else (if a4 < 0 then (coppicelaw13_SparseWrites.j0 k l0 a1 a2 a3 a4 a5 true) else (if a5 < 0 then (coppicelaw13_SparseWrites.j0 k l0 a1 a2 a3 a4 a5 true) else (coppicelaw13_SparseWrites.j0 k l0 a1 a2 a3 a4 a5 (decide (a5 > 4096)))))))) else (some false)) = some r := H
 have A7 := Aside0.mk A70
 clear A70
 by_cases c8 : t126 = true
 ·subst c8
  have H1 : ((coppiceref13_Great.f k l0).bind fun t127 => (if t127 = true then (coppicelaw13_SparseWrites.j0 k l0 a1 a2 a3 a4 a5 true) else (if (a3.size : Int) > 4096 then (coppicelaw13_SparseWrites.j0 k l0 a1 a2 a3 a4 a5 true) else (if a4 < 0 then (coppicelaw13_SparseWrites.j0 k l0 a1 a2 a3 a4 a5 true) else (if a5 < 0 then (coppicelaw13_SparseWrites.j0 k l0 a1 a2 a3 a4 a5 true) else (coppicelaw13_SparseWrites.j0 k l0 a1 a2 a3 a4 a5 (decide (a5 > 4096)))))))) = some r := by rw [if_pos rfl] at H; exact H
  clear H
  have H := H1
  clear H1
  have HC9 := Aside0.mk H
  clear H
  go_enter Tryd.func3, Tryd.ntmps3
  go_upto_region 3 with (first | (go_at_call 9; (with_reducible refine (coppicelaw13_awake.calls k  true _ A7.out).mono ?_); rintro e w10 ⟨rfl, hb⟩; have n0_ := Aside0.mk (below_step (by repeat (first | (with_reducible first | exact HB.out | apply below_alloc | apply pw_below_drewN | apply below_drew1) | exact HB.out)) hb); clear HB; have HB := n0_; clear n0_; (try clear hb); (try clear hb2); (try clear hk); (try clear hi)))
  repeat (go_quiet (first | (go_at_call 9; (with_reducible refine (coppicelaw13_awake.calls k  true _ A7.out).mono ?_); rintro e w10 ⟨rfl, hb⟩; have n0_ := Aside0.mk (below_step (by repeat (first | (with_reducible first | exact HB.out | apply below_alloc | apply pw_below_drewN | apply below_drew1) | exact HB.out)) hb); clear HB; have HB := n0_; clear n0_; (try clear hb); (try clear hb2); (try clear hk); (try clear hi))); go_upto_region 3 with (first | (go_at_call 9; (with_reducible refine (coppicelaw13_awake.calls k  true _ A7.out).mono ?_); rintro e w10 ⟨rfl, hb⟩; have n0_ := Aside0.mk (below_step (by repeat (first | (with_reducible first | exact HB.out | apply below_alloc | apply pw_below_drewN | apply below_drew1) | exact HB.out)) hb); clear HB; have HB := n0_; clear n0_; (try clear hb); (try clear hb2); (try clear hk); (try clear hi))))
  (try simp only [Act.put, List.setIfInBounds_toArray, List.set_cons_zero, List.set_cons_succ])
  go_cut [44] (fun v44 wc => ∃ (kq : Nat) (x44_8 : Bool), v44 = .bool x44_8 ∧ Aside0 (coppicelaw13_SparseWrites.j0 kq l0 a1 a2 a3 a4 a5 x44_8 = some r) ∧ Aside0 (kq ≤ k) ∧ Aside0 (Below w.heap.size w wc))
  case first =>
   have H := HC9.out
   clear HC9
   replace H := Option.bind_eq_some_iff.mp H
   obtain ⟨t127, A110, H⟩ := H
   replace H : (if t127 = true then (coppicelaw13_SparseWrites.j0 k l0 a1 a2 a3 a4 a5 true) else (if (a3.size : Int) > 4096 then (coppicelaw13_SparseWrites.j0 k l0 a1 a2 a3 a4 a5 true) else (if a4 < 0 then (coppicelaw13_SparseWrites.j0 k l0 a1 a2 a3 a4 a5 true) else (if a5 < 0 then (coppicelaw13_SparseWrites.j0 k l0 a1 a2 a3 a4 a5 true) else (coppicelaw13_SparseWrites.j0 k l0 a1 a2 a3 a4 a5 (decide (a5 > 4096))))))) = some r := H
   have A11 := Aside0.mk A110
   clear A110
   by_cases c12 : t127 = true
   ·subst c12
    have H1 : (coppicelaw13_SparseWrites.j0 k l0 a1 a2 a3 a4 a5 true) = some r := by rw [if_pos rfl] at H; exact H
    clear H
    have H := H1
    clear H1
    have H' := Aside0.mk H
    clear H
    go_wp2_with (first | (go_at_call 10; (with_reducible refine (coppiceref13_Great.calls k _ _ l0 true _ ?side1 ?side2 A11.out).mono ?_); (case side1 => repeat (first | exact (Kd.C_below HR0.out HB.out) | (with_reducible refine Kd.C_alloc ?_ _) | (with_reducible refine Kd.C_drewN ?_ _) | (with_reducible refine Kd.C_drew ?_))); (case side2 => exact HC0.out); rintro e w' ⟨rfl, ⟨nd, rfl⟩⟩; (try first | exact ⟨rfl, _, World.drewN_drewN _ _ _⟩ | exact ⟨rfl, _, Eq.trans (World.drewN_drewN _ _ _) (congrArg (World.drewN _) (Nat.add_assoc _ _ _))⟩)))
    repeat (go_quiet (first | (go_at_call 10; (with_reducible refine (coppiceref13_Great.calls k _ _ l0 true _ ?side1 ?side2 A11.out).mono ?_); (case side1 => repeat (first | exact (Kd.C_below HR0.out HB.out) | (with_reducible refine Kd.C_alloc ?_ _) | (with_reducible refine Kd.C_drewN ?_ _) | (with_reducible refine Kd.C_drew ?_))); (case side2 => exact HC0.out); rintro e w' ⟨rfl, ⟨nd, rfl⟩⟩; (try first | exact ⟨rfl, _, World.drewN_drewN _ _ _⟩ | exact ⟨rfl, _, Eq.trans (World.drewN_drewN _ _ _) (congrArg (World.drewN _) (Nat.add_assoc _ _ _))⟩))); try go_wp2_with (first | (go_at_call 10; (with_reducible refine (coppiceref13_Great.calls k _ _ l0 true _ ?side1 ?side2 A11.out).mono ?_); (case side1 => repeat (first | exact (Kd.C_below HR0.out HB.out) | (with_reducible refine Kd.C_alloc ?_ _) | (with_reducible refine Kd.C_drewN ?_ _) | (with_reducible refine Kd.C_drew ?_))); (case side2 => exact HC0.out); rintro e w' ⟨rfl, ⟨nd, rfl⟩⟩; (try first | exact ⟨rfl, _, World.drewN_drewN _ _ _⟩ | exact ⟨rfl, _, Eq.trans (World.drewN_drewN _ _ _) (congrArg (World.drewN _) (Nat.add_assoc _ _ _))⟩))))
    go_meet
    case rel => exact ⟨_, (true), (by first | rfl | (simp; done) | (simp [*]; done)), H', ⟨by first | omega | exact Nat.le_refl _⟩, ⟨by repeat (first | (with_reducible first | exact HB.out | apply below_alloc | apply pw_below_drewN | apply below_drew1) | exact HB.out)⟩⟩
   ·replace c12 := Bool.eq_false_iff.mpr c12
    subst c12
    have H1 : (if (a3.size : Int) > 4096 then (coppicelaw13_SparseWrites.j0 k l0 a1 a2 a3 a4 a5 true) else (if a4 < 0 then (coppicelaw13_SparseWrites.j0 k l0 a1 a2 a3 a4 a5 true) else (if a5 < 0 then (coppicelaw13_SparseWrites.j0 k l0 a1 a2 a3 a4 a5 true) else (coppicelaw13_SparseWrites.j0 k l0 a1 a2 a3 a4 a5 (decide (a5 > 4096)))))) = some r := by rw [if_neg (show ¬ (false = true) by decide)] at H; exact H
    clear H
    have H := H1
    clear H1
    by_cases c13 : (a3.size : Int) > 4096
    ·rw [if_pos c13] at H
     have c13b0 : decide (4096 < (a3.size : Int)) = true := decide_eq_true c13
     have c13b1 : decide (4096 < a3.size) = true := decide_eq_true (by omega)
     clear c13
     (first | rw [c13b0] | (simp only [i64_w, i32_w]; rw [c13b0]) | skip)
     have H' := Aside0.mk H
     clear H
     go_wp2_with (first | (go_at_call 10; (with_reducible refine (coppiceref13_Great.calls k _ _ l0 false _ ?side1 ?side2 A11.out).mono ?_); (case side1 => repeat (first | exact (Kd.C_below HR0.out HB.out) | (with_reducible refine Kd.C_alloc ?_ _) | (with_reducible refine Kd.C_drewN ?_ _) | (with_reducible refine Kd.C_drew ?_))); (case side2 => exact HC0.out); rintro e w' ⟨rfl, ⟨nd, rfl⟩⟩; (try first | exact ⟨rfl, _, World.drewN_drewN _ _ _⟩ | exact ⟨rfl, _, Eq.trans (World.drewN_drewN _ _ _) (congrArg (World.drewN _) (Nat.add_assoc _ _ _))⟩)))
     repeat (go_quiet (first | (go_at_call 10; (with_reducible refine (coppiceref13_Great.calls k _ _ l0 false _ ?side1 ?side2 A11.out).mono ?_); (case side1 => repeat (first | exact (Kd.C_below HR0.out HB.out) | (with_reducible refine Kd.C_alloc ?_ _) | (with_reducible refine Kd.C_drewN ?_ _) | (with_reducible refine Kd.C_drew ?_))); (case side2 => exact HC0.out); rintro e w' ⟨rfl, ⟨nd, rfl⟩⟩; (try first | exact ⟨rfl, _, World.drewN_drewN _ _ _⟩ | exact ⟨rfl, _, Eq.trans (World.drewN_drewN _ _ _) (congrArg (World.drewN _) (Nat.add_assoc _ _ _))⟩))); try go_wp2_with (first | (go_at_call 10; (with_reducible refine (coppiceref13_Great.calls k _ _ l0 false _ ?side1 ?side2 A11.out).mono ?_); (case side1 => repeat (first | exact (Kd.C_below HR0.out HB.out) | (with_reducible refine Kd.C_alloc ?_ _) | (with_reducible refine Kd.C_drewN ?_ _) | (with_reducible refine Kd.C_drew ?_))); (case side2 => exact HC0.out); rintro e w' ⟨rfl, ⟨nd, rfl⟩⟩; (try first | exact ⟨rfl, _, World.drewN_drewN _ _ _⟩ | exact ⟨rfl, _, Eq.trans (World.drewN_drewN _ _ _) (congrArg (World.drewN _) (Nat.add_assoc _ _ _))⟩))))
     go_meet
     case rel => exact ⟨_, (true), (by first | rfl | (simp; done) | (simp [*]; done)), H', ⟨by first | omega | exact Nat.le_refl _⟩, ⟨by repeat (first | (with_reducible first | exact HB.out | apply below_alloc | apply pw_below_drewN | apply below_drew1) | exact HB.out)⟩⟩
    ·rw [if_neg c13] at H
     have c13b0 : decide (4096 < (a3.size : Int)) = false := decide_eq_false c13
     have c13b1 : decide (4096 < a3.size) = false := decide_eq_false (by omega)
     clear c13
     (first | rw [c13b0] | (simp only [i64_w, i32_w]; rw [c13b0]) | skip)
     by_cases c14 : a4 < 0
     ·rw [if_pos c14] at H
      have c14b0 : decide (a4 < 0) = true := decide_eq_true c14
      clear c14
      have H' := Aside0.mk H
      clear H
      go_wp2_with (first | (go_at_call 10; (with_reducible refine (coppiceref13_Great.calls k _ _ l0 false _ ?side1 ?side2 A11.out).mono ?_); (case side1 => repeat (first | exact (Kd.C_below HR0.out HB.out) | (with_reducible refine Kd.C_alloc ?_ _) | (with_reducible refine Kd.C_drewN ?_ _) | (with_reducible refine Kd.C_drew ?_))); (case side2 => exact HC0.out); rintro e w' ⟨rfl, ⟨nd, rfl⟩⟩; (try first | exact ⟨rfl, _, World.drewN_drewN _ _ _⟩ | exact ⟨rfl, _, Eq.trans (World.drewN_drewN _ _ _) (congrArg (World.drewN _) (Nat.add_assoc _ _ _))⟩)))
      repeat (go_quiet (first | (go_at_call 10; (with_reducible refine (coppiceref13_Great.calls k _ _ l0 false _ ?side1 ?side2 A11.out).mono ?_); (case side1 => repeat (first | exact (Kd.C_below HR0.out HB.out) | (with_reducible refine Kd.C_alloc ?_ _) | (with_reducible refine Kd.C_drewN ?_ _) | (with_reducible refine Kd.C_drew ?_))); (case side2 => exact HC0.out); rintro e w' ⟨rfl, ⟨nd, rfl⟩⟩; (try first | exact ⟨rfl, _, World.drewN_drewN _ _ _⟩ | exact ⟨rfl, _, Eq.trans (World.drewN_drewN _ _ _) (congrArg (World.drewN _) (Nat.add_assoc _ _ _))⟩))); try go_wp2_with (first | (go_at_call 10; (with_reducible refine (coppiceref13_Great.calls k _ _ l0 false _ ?side1 ?side2 A11.out).mono ?_); (case side1 => repeat (first | exact (Kd.C_below HR0.out HB.out) | (with_reducible refine Kd.C_alloc ?_ _) | (with_reducible refine Kd.C_drewN ?_ _) | (with_reducible refine Kd.C_drew ?_))); (case side2 => exact HC0.out); rintro e w' ⟨rfl, ⟨nd, rfl⟩⟩; (try first | exact ⟨rfl, _, World.drewN_drewN _ _ _⟩ | exact ⟨rfl, _, Eq.trans (World.drewN_drewN _ _ _) (congrArg (World.drewN _) (Nat.add_assoc _ _ _))⟩))))
      go_meet
      case rel => exact ⟨_, (true), (by first | rfl | (simp; done) | (simp [*]; done)), H', ⟨by first | omega | exact Nat.le_refl _⟩, ⟨by repeat (first | (with_reducible first | exact HB.out | apply below_alloc | apply pw_below_drewN | apply below_drew1) | exact HB.out)⟩⟩
     ·rw [if_neg c14] at H
      have c14b0 : decide (a4 < 0) = false := decide_eq_false c14
      clear c14
      by_cases c15 : a5 < 0
      ·rw [if_pos c15] at H
       have c15b0 : decide (a5 < 0) = true := decide_eq_true c15
       clear c15
       have H' := Aside0.mk H
       clear H
       go_wp2_with (first | (go_at_call 10; (with_reducible refine (coppiceref13_Great.calls k _ _ l0 false _ ?side1 ?side2 A11.out).mono ?_); (case side1 => repeat (first | exact (Kd.C_below HR0.out HB.out) | (with_reducible refine Kd.C_alloc ?_ _) | (with_reducible refine Kd.C_drewN ?_ _) | (with_reducible refine Kd.C_drew ?_))); (case side2 => exact HC0.out); rintro e w' ⟨rfl, ⟨nd, rfl⟩⟩; (try first | exact ⟨rfl, _, World.drewN_drewN _ _ _⟩ | exact ⟨rfl, _, Eq.trans (World.drewN_drewN _ _ _) (congrArg (World.drewN _) (Nat.add_assoc _ _ _))⟩)))
       repeat (go_quiet (first | (go_at_call 10; (with_reducible refine (coppiceref13_Great.calls k _ _ l0 false _ ?side1 ?side2 A11.out).mono ?_); (case side1 => repeat (first | exact (Kd.C_below HR0.out HB.out) | (with_reducible refine Kd.C_alloc ?_ _) | (with_reducible refine Kd.C_drewN ?_ _) | (with_reducible refine Kd.C_drew ?_))); (case side2 => exact HC0.out); rintro e w' ⟨rfl, ⟨nd, rfl⟩⟩; (try first | exact ⟨rfl, _, World.drewN_drewN _ _ _⟩ | exact ⟨rfl, _, Eq.trans (World.drewN_drewN _ _ _) (congrArg (World.drewN _) (Nat.add_assoc _ _ _))⟩))); try go_wp2_with (first | (go_at_call 10; (with_reducible refine (coppiceref13_Great.calls k _ _ l0 false _ ?side1 ?side2 A11.out).mono ?_); (case side1 => repeat (first | exact (Kd.C_below HR0.out HB.out) | (with_reducible refine Kd.C_alloc ?_ _) | (with_reducible refine Kd.C_drewN ?_ _) | (with_reducible refine Kd.C_drew ?_))); (case side2 => exact HC0.out); rintro e w' ⟨rfl, ⟨nd, rfl⟩⟩; (try first | exact ⟨rfl, _, World.drewN_drewN _ _ _⟩ | exact ⟨rfl, _, Eq.trans (World.drewN_drewN _ _ _) (congrArg (World.drewN _) (Nat.add_assoc _ _ _))⟩))))
       go_meet
       case rel => exact ⟨_, (true), (by first | rfl | (simp; done) | (simp [*]; done)), H', ⟨by first | omega | exact Nat.le_refl _⟩, ⟨by repeat (first | (with_reducible first | exact HB.out | apply below_alloc | apply pw_below_drewN | apply below_drew1) | exact HB.out)⟩⟩
      ·rw [if_neg c15] at H
       have c15b0 : decide (a5 < 0) = false := decide_eq_false c15
       clear c15
       have H' := Aside0.mk H
       clear H
       go_wp2_with (first | (go_at_call 10; (with_reducible refine (coppiceref13_Great.calls k _ _ l0 false _ ?side1 ?side2 A11.out).mono ?_); (case side1 => repeat (first | exact (Kd.C_below HR0.out HB.out) | (with_reducible refine Kd.C_alloc ?_ _) | (with_reducible refine Kd.C_drewN ?_ _) | (with_reducible refine Kd.C_drew ?_))); (case side2 => exact HC0.out); rintro e w' ⟨rfl, ⟨nd, rfl⟩⟩; (try first | exact ⟨rfl, _, World.drewN_drewN _ _ _⟩ | exact ⟨rfl, _, Eq.trans (World.drewN_drewN _ _ _) (congrArg (World.drewN _) (Nat.add_assoc _ _ _))⟩)))
       repeat (go_quiet (first | (go_at_call 10; (with_reducible refine (coppiceref13_Great.calls k _ _ l0 false _ ?side1 ?side2 A11.out).mono ?_); (case side1 => repeat (first | exact (Kd.C_below HR0.out HB.out) | (with_reducible refine Kd.C_alloc ?_ _) | (with_reducible refine Kd.C_drewN ?_ _) | (with_reducible refine Kd.C_drew ?_))); (case side2 => exact HC0.out); rintro e w' ⟨rfl, ⟨nd, rfl⟩⟩; (try first | exact ⟨rfl, _, World.drewN_drewN _ _ _⟩ | exact ⟨rfl, _, Eq.trans (World.drewN_drewN _ _ _) (congrArg (World.drewN _) (Nat.add_assoc _ _ _))⟩))); try go_wp2_with (first | (go_at_call 10; (with_reducible refine (coppiceref13_Great.calls k _ _ l0 false _ ?side1 ?side2 A11.out).mono ?_); (case side1 => repeat (first | exact (Kd.C_below HR0.out HB.out) | (with_reducible refine Kd.C_alloc ?_ _) | (with_reducible refine Kd.C_drewN ?_ _) | (with_reducible refine Kd.C_drew ?_))); (case side2 => exact HC0.out); rintro e w' ⟨rfl, ⟨nd, rfl⟩⟩; (try first | exact ⟨rfl, _, World.drewN_drewN _ _ _⟩ | exact ⟨rfl, _, Eq.trans (World.drewN_drewN _ _ _) (congrArg (World.drewN _) (Nat.add_assoc _ _ _))⟩))))
       go_meet
       case rel => exact ⟨_, (decide (a5 > 4096)), (by first | rfl | (simp; done) | (simp [*]; done)), H', ⟨by first | omega | exact Nat.le_refl _⟩, ⟨by repeat (first | (with_reducible first | exact HB.out | apply below_alloc | apply pw_below_drewN | apply below_drew1) | exact HB.out)⟩⟩
  case rest =>
   clear HC9
   try clear c1
   try clear p2
   try clear c3
   try clear c8
   try clear c12
   try clear c13
   try clear c13b0
   try clear c13b1
   try clear c14
   try clear c14b0
   try clear c15
   try clear c15b0
   obtain ⟨kq, x44_8, rfl, HA, HJ8, HB⟩ := hcut
   cases kq with
   | zero => exact absurd HA.out (by simp [coppicelaw13_SparseWrites.j0])
   | succ kj8 =>
    have H := HA.out
    clear HA
    simp only [coppicelaw13_SparseWrites.j0] at H
    by_cases c16 : x44_8 = true
    ·subst c16
     have H1 : (some true) = some r := by rw [if_pos rfl] at H; exact H
     clear H
     have H := H1
     clear H1
     obtain rfl := Option.some.inj H
     go_wp2
     repeat (go_quiet (fail); try go_wp2)
     go_ret
     exact ⟨by first | rfl | (simp [errW_none, errW_some] <;> rfl) | (simp [*, errW_none, errW_some] <;> rfl), by repeat (first | (with_reducible first | exact HB.out | apply below_alloc | apply pw_below_drewN | apply below_drew1) | exact HB.out)⟩
    ·replace c16 := Bool.eq_false_iff.mpr c16
     subst c16
     have H1 : ((coppicelaw13_own.f l0).bind fun t128 => ((sparse_Write.f kj8 t128 a1 a2 a3).bind fun bt131 => (if bt131.2.2 = 0 then ((sparse_Read.f kj8 bt131.1 bt131.2.1 a2 (a3.size : Int)).bind fun bt136 => ((coppicelaw13_own.f l0).bind fun t138 => ((sparse_Read.f kj8 t138 a1 a4 a5).bind fun bt141 => ((sparse_Read.f kj8 bt131.1 bt131.2.1 a4 a5).bind fun bt143 => (if bt136.2 = 0 then (if bt141.2 = 0 then (if bt143.2 = 0 then (if bt136.1.toList = a3.toList then (coppicelaw13_SparseWrites.j1 kj8 a2 a3 a4 bt141.1 bt143.1 (decide ((bt143.1.size : Int) < (bt141.1.size : Int)))) else (coppicelaw13_SparseWrites.j1 kj8 a2 a3 a4 bt141.1 bt143.1 true)) else (coppicelaw13_SparseWrites.j1 kj8 a2 a3 a4 bt141.1 bt143.1 true)) else (coppicelaw13_SparseWrites.j1 kj8 a2 a3 a4 bt141.1 bt143.1 true)) else (coppicelaw13_SparseWrites.j1 kj8 a2 a3 a4 bt141.1 bt143.1 true)))))) else (if (bt131.1.length : Int) = 0 then (some (bt131.2.1 == 0)) else (some false))))) = some r := by rw [if_neg (show ¬ (false = true) by decide)] at H; exact H
     clear H
     have H := H1
     clear H1
     replace H := Option.bind_eq_some_iff.mp H
     obtain ⟨t128, A170, H⟩ := H
     replace H : ((sparse_Write.f kj8 t128 a1 a2 a3).bind fun bt131 => (if bt131.2.2 = 0 then ((sparse_Read.f kj8 bt131.1 bt131.2.1 a2 (a3.size : Int)).bind fun bt136 => ((coppicelaw13_own.f l0).bind fun t138 => ((sparse_Read.f kj8 t138 a1 a4 a5).bind fun bt141 => ((sparse_Read.f kj8 bt131.1 bt131.2.1 a4 a5).bind fun bt143 => (if bt136.2 = 0 then (if bt141.2 = 0 then (if bt143.2 = 0 then (if bt136.1.toList = a3.toList then (coppicelaw13_SparseWrites.j1 kj8 a2 a3 a4 bt141.1 bt143.1 (decide ((bt143.1.size : Int) < (bt141.1.size : Int)))) else (coppicelaw13_SparseWrites.j1 kj8 a2 a3 a4 bt141.1 bt143.1 true)) else (coppicelaw13_SparseWrites.j1 kj8 a2 a3 a4 bt141.1 bt143.1 true)) else (coppicelaw13_SparseWrites.j1 kj8 a2 a3 a4 bt141.1 bt143.1 true)) else (coppicelaw13_SparseWrites.j1 kj8 a2 a3 a4 bt141.1 bt143.1 true)))))) else (if (bt131.1.length : Int) = 0 then (some (bt131.2.1 == 0)) else (some false)))) = some r := H
     have A17 := Aside0.mk A170
     clear A170
     replace H := Option.bind_eq_some_iff.mp H
     obtain ⟨⟨t131, t132, t133⟩, A180, H⟩ := H
     replace H : (if t133 = 0 then ((sparse_Read.f kj8 t131 t132 a2 (a3.size : Int)).bind fun bt136 => ((coppicelaw13_own.f l0).bind fun t138 => ((sparse_Read.f kj8 t138 a1 a4 a5).bind fun bt141 => ((sparse_Read.f kj8 t131 t132 a4 a5).bind fun bt143 => (if bt136.2 = 0 then (if bt141.2 = 0 then (if bt143.2 = 0 then (if bt136.1.toList = a3.toList then (coppicelaw13_SparseWrites.j1 kj8 a2 a3 a4 bt141.1 bt143.1 (decide ((bt143.1.size : Int) < (bt141.1.size : Int)))) else (coppicelaw13_SparseWrites.j1 kj8 a2 a3 a4 bt141.1 bt143.1 true)) else (coppicelaw13_SparseWrites.j1 kj8 a2 a3 a4 bt141.1 bt143.1 true)) else (coppicelaw13_SparseWrites.j1 kj8 a2 a3 a4 bt141.1 bt143.1 true)) else (coppicelaw13_SparseWrites.j1 kj8 a2 a3 a4 bt141.1 bt143.1 true)))))) else (if (t131.length : Int) = 0 then (some (t132 == 0)) else (some false))) = some r := H
     have A18 := Aside0.mk A180
     clear A180
     by_cases c19 : t133 = 0
     ·rw [if_pos c19] at H
      have c19b0 : (t133 == 0) = true := beq_iff_eq.mpr c19
      have c19b1 : (t133 != 0) = false := bne_eq_false_iff_eq.mpr c19
      clear c19
      replace H := Option.bind_eq_some_iff.mp H
      obtain ⟨⟨t136, t137⟩, A200, H⟩ := H
      replace H : ((coppicelaw13_own.f l0).bind fun t138 => ((sparse_Read.f kj8 t138 a1 a4 a5).bind fun bt141 => ((sparse_Read.f kj8 t131 t132 a4 a5).bind fun bt143 => (if t137 = 0 then (if bt141.2 = 0 then (if bt143.2 = 0 then (if t136.toList = a3.toList then (coppicelaw13_SparseWrites.j1 kj8 a2 a3 a4 bt141.1 bt143.1 (decide ((bt143.1.size : Int) < (bt141.1.size : Int)))) else (coppicelaw13_SparseWrites.j1 kj8 a2 a3 a4 bt141.1 bt143.1 true)) else (coppicelaw13_SparseWrites.j1 kj8 a2 a3 a4 bt141.1 bt143.1 true)) else (coppicelaw13_SparseWrites.j1 kj8 a2 a3 a4 bt141.1 bt143.1 true)) else (coppicelaw13_SparseWrites.j1 kj8 a2 a3 a4 bt141.1 bt143.1 true))))) = some r := H
      have A20 := Aside0.mk A200
      clear A200
      rw [A17.out, Option.bind_some] at H
      skip
      replace H : ((sparse_Read.f kj8 t128 a1 a4 a5).bind fun bt141 => ((sparse_Read.f kj8 t131 t132 a4 a5).bind fun bt143 => (if t137 = 0 then (if bt141.2 = 0 then (if bt143.2 = 0 then (if t136.toList = a3.toList then (coppicelaw13_SparseWrites.j1 kj8 a2 a3 a4 bt141.1 bt143.1 (decide ((bt143.1.size : Int) < (bt141.1.size : Int)))) else (coppicelaw13_SparseWrites.j1 kj8 a2 a3 a4 bt141.1 bt143.1 true)) else (coppicelaw13_SparseWrites.j1 kj8 a2 a3 a4 bt141.1 bt143.1 true)) else (coppicelaw13_SparseWrites.j1 kj8 a2 a3 a4 bt141.1 bt143.1 true)) else (coppicelaw13_SparseWrites.j1 kj8 a2 a3 a4 bt141.1 bt143.1 true)))) = some r := H
      skip
      skip
      replace H := Option.bind_eq_some_iff.mp H
      obtain ⟨⟨t141, t142⟩, A220, H⟩ := H
      replace H : ((sparse_Read.f kj8 t131 t132 a4 a5).bind fun bt143 => (if t137 = 0 then (if t142 = 0 then (if bt143.2 = 0 then (if t136.toList = a3.toList then (coppicelaw13_SparseWrites.j1 kj8 a2 a3 a4 t141 bt143.1 (decide ((bt143.1.size : Int) < (t141.size : Int)))) else (coppicelaw13_SparseWrites.j1 kj8 a2 a3 a4 t141 bt143.1 true)) else (coppicelaw13_SparseWrites.j1 kj8 a2 a3 a4 t141 bt143.1 true)) else (coppicelaw13_SparseWrites.j1 kj8 a2 a3 a4 t141 bt143.1 true)) else (coppicelaw13_SparseWrites.j1 kj8 a2 a3 a4 t141 bt143.1 true))) = some r := H
      have A22 := Aside0.mk A220
      clear A220
      replace H := Option.bind_eq_some_iff.mp H
      obtain ⟨⟨t143, t144⟩, A230, H⟩ := H
      replace H : (if t137 = 0 then (if t142 = 0 then (if t144 = 0 then (if t136.toList = a3.toList then (coppicelaw13_SparseWrites.j1 kj8 a2 a3 a4 t141 t143 (decide ((t143.size : Int) < (t141.size : Int)))) else (coppicelaw13_SparseWrites.j1 kj8 a2 a3 a4 t141 t143 true)) else (coppicelaw13_SparseWrites.j1 kj8 a2 a3 a4 t141 t143 true)) else (coppicelaw13_SparseWrites.j1 kj8 a2 a3 a4 t141 t143 true)) else (coppicelaw13_SparseWrites.j1 kj8 a2 a3 a4 t141 t143 true)) = some r := H
      have A23 := Aside0.mk A230
      clear A230
      have HC24 := Aside0.mk H
      clear H
      go_upto_region 11 with (first | (go_at_call 12; (fail_if_success (have := HO130)); (with_reducible refine (coppicelaw13_own.calls _ _ l0 t128 _ ?side1 ?side2 A17.out).mono ?_); (case side1 => repeat (first | exact (Kd.C_below HR0.out HB.out) | (with_reducible refine Kd.C_alloc ?_ _) | (with_reducible refine Kd.C_drewN ?_ _) | (with_reducible refine Kd.C_drew ?_))); (case side2 => exact HC0.out); rintro e w25 ⟨v129, rfl, ho0, hb⟩; have n0_ := Aside0.mk (Kd.R_lower ho0 (below_size (by repeat (first | (with_reducible first | exact HB.out | apply below_alloc | apply pw_below_drewN | apply below_drew1) | exact HB.out)))); have n1_ := Aside0.mk (below_step (by repeat (first | (with_reducible first | exact HB.out | apply below_alloc | apply pw_below_drewN | apply below_drew1) | exact HB.out)) hb); clear HB; have HO130 := n0_; have HB := n1_; clear n0_ n1_; (try clear hb); (try clear hb2); (try clear hk); (try clear hi); (try clear ho0); obtain ⟨Ao26, co26, eo26⟩ := Kd.R_slice HO130.out; subst eo26) | (go_at_call 11; (with_reducible refine (sparse_Write.calls kj8 _ _ t128 a1 a2 a3 t131 t132 t133 _ ?side1 ?side2 A18.out).mono ?_); (case side1 => repeat (first | exact (Kd.R_reads' HO130.out).2.2 | (with_reducible refine Kd.C_alloc ?_ _) | (with_reducible refine Kd.C_drewN ?_ _) | (with_reducible refine Kd.C_drew ?_))); (case side2 => exact (Kd.R_reads' HO130.out).2.1); rintro e w27 ⟨v134, rfl, ho0, hb⟩; have n0_ := Aside0.mk (Kd.R_elder' (by (with_reducible repeat (first | apply Kd.R_alloc | apply Kd.R_drewN | apply Kd.R_drew)); exact HO130.out) (Kd.R_base ho0) hb); have n1_ := Aside0.mk (Kd.R_lower (Kd.R_new' ho0 (Kd.R_lt (by (with_reducible repeat (first | apply Kd.R_alloc | apply Kd.R_drewN | apply Kd.R_drew)); exact HO130.out))) (below_size (by repeat (first | (with_reducible first | exact HB.out | apply below_alloc | apply pw_below_drewN | apply below_drew1) | exact HB.out)))); have n2_ := Aside0.mk (below_step (by repeat (first | (with_reducible first | exact HB.out | apply below_alloc | apply pw_below_drewN | apply below_drew1) | exact HB.out)) hb); clear HO130; clear HB; have HO130 := n0_; have HO135 := n1_; have HB := n2_; clear n0_ n1_ n2_; (try clear hb); (try clear hb2); (try clear hk); (try clear hi); (try clear ho0); obtain ⟨Ao28, co28, eo28⟩ := Kd.R_slice HO135.out; subst eo28) | (go_at_call 13; (with_reducible refine (sparse_Read.calls kj8 _ _ t131 t132 a2 (a3.size : Int) t136 t137 _ ?side1 ?side2 A20.out).mono ?_); (case side1 => repeat (first | exact (Kd.R_reads' HO135.out).2.2 | (with_reducible refine Kd.C_alloc ?_ _) | (with_reducible refine Kd.C_drewN ?_ _) | (with_reducible refine Kd.C_drew ?_))); (case side2 => exact (Kd.R_reads' HO135.out).2.1); rintro e w29 ⟨rfl, hb⟩; have n0_ := Aside0.mk (Kd.R_below (by (with_reducible repeat (first | apply Kd.R_alloc | apply Kd.R_drewN | apply Kd.R_drew)); exact HO130.out) hb); have n1_ := Aside0.mk (Kd.R_below (by (with_reducible repeat (first | apply Kd.R_alloc | apply Kd.R_drewN | apply Kd.R_drew)); exact HO135.out) hb); have n2_ := Aside0.mk (below_step (by repeat (first | (with_reducible first | exact HB.out | apply below_alloc | apply pw_below_drewN | apply below_drew1) | exact HB.out)) hb); clear HO130; clear HO135; clear HB; have HO130 := n0_; have HO135 := n1_; have HB := n2_; clear n0_ n1_ n2_; (try clear hb); (try clear hb2); (try clear hk); (try clear hi)) | (go_at_call 12; (with_reducible refine (coppicelaw13_own.calls _ _ l0 t128 _ ?side1 ?side2 A17.out).mono ?_); (case side1 => repeat (first | exact (Kd.C_below HR0.out HB.out) | (with_reducible refine Kd.C_alloc ?_ _) | (with_reducible refine Kd.C_drewN ?_ _) | (with_reducible refine Kd.C_drew ?_))); (case side2 => exact HC0.out); rintro e w30 ⟨v139, rfl, ho0, hb⟩; have n0_ := Aside0.mk (Kd.R_elder' (by (with_reducible repeat (first | apply Kd.R_alloc | apply Kd.R_drewN | apply Kd.R_drew)); exact HO130.out) (Kd.R_base ho0) hb); have n1_ := Aside0.mk (Kd.R_elder' (by (with_reducible repeat (first | apply Kd.R_alloc | apply Kd.R_drewN | apply Kd.R_drew)); exact HO135.out) (Kd.R_base ho0) hb); have n2_ := Aside0.mk (Kd.R_lower (Kd.R_new' (Kd.R_new' ho0 (Kd.R_lt (by (with_reducible repeat (first | apply Kd.R_alloc | apply Kd.R_drewN | apply Kd.R_drew)); exact HO130.out))) (Kd.R_lt (by (with_reducible repeat (first | apply Kd.R_alloc | apply Kd.R_drewN | apply Kd.R_drew)); exact HO135.out))) (below_size (by repeat (first | (with_reducible first | exact HB.out | apply below_alloc | apply pw_below_drewN | apply below_drew1) | exact HB.out)))); have n3_ := Aside0.mk (below_step (by repeat (first | (with_reducible first | exact HB.out | apply below_alloc | apply pw_below_drewN | apply below_drew1) | exact HB.out)) hb); clear HO130; clear HO135; clear HB; have HO130 := n0_; have HO135 := n1_; have HO140 := n2_; have HB := n3_; clear n0_ n1_ n2_ n3_; (try clear hb); (try clear hb2); (try clear hk); (try clear hi); (try clear ho0); obtain ⟨Ao31, co31, eo31⟩ := Kd.R_slice HO140.out; subst eo31) | (go_at_call 13; (with_reducible refine (sparse_Read.calls kj8 _ _ t128 a1 a4 a5 t141 t142 _ ?side1 ?side2 A22.out).mono ?_); (case side1 => repeat (first | exact (Kd.R_reads' HO140.out).2.2 | (with_reducible refine Kd.C_alloc ?_ _) | (with_reducible refine Kd.C_drewN ?_ _) | (with_reducible refine Kd.C_drew ?_))); (case side2 => exact (Kd.R_reads' HO140.out).2.1); rintro e w32 ⟨rfl, hb⟩; have n0_ := Aside0.mk (Kd.R_below (by (with_reducible repeat (first | apply Kd.R_alloc | apply Kd.R_drewN | apply Kd.R_drew)); exact HO130.out) hb); have n1_ := Aside0.mk (Kd.R_below (by (with_reducible repeat (first | apply Kd.R_alloc | apply Kd.R_drewN | apply Kd.R_drew)); exact HO135.out) hb); have n2_ := Aside0.mk (Kd.R_below (by (with_reducible repeat (first | apply Kd.R_alloc | apply Kd.R_drewN | apply Kd.R_drew)); exact HO140.out) hb); have n3_ := Aside0.mk (below_step (by repeat (first | (with_reducible first | exact HB.out | apply below_alloc | apply pw_below_drewN | apply below_drew1) | exact HB.out)) hb); clear HO130; clear HO135; clear HO140; clear HB; have HO130 := n0_; have HO135 := n1_; have HO140 := n2_; have HB := n3_; clear n0_ n1_ n2_ n3_; (try clear hb); (try clear hb2); (try clear hk); (try clear hi)) | (go_at_call 13; (with_reducible refine (sparse_Read.calls kj8 _ _ t131 t132 a4 a5 t143 t144 _ ?side1 ?side2 A23.out).mono ?_); (case side1 => repeat (first | exact (Kd.R_reads' HO135.out).2.2 | (with_reducible refine Kd.C_alloc ?_ _) | (with_reducible refine Kd.C_drewN ?_ _) | (with_reducible refine Kd.C_drew ?_))); (case side2 => exact (Kd.R_reads' HO135.out).2.1); rintro e w33 ⟨rfl, hb⟩; have n0_ := Aside0.mk (Kd.R_below (by (with_reducible repeat (first | apply Kd.R_alloc | apply Kd.R_drewN | apply Kd.R_drew)); exact HO130.out) hb); have n1_ := Aside0.mk (Kd.R_below (by (with_reducible repeat (first | apply Kd.R_alloc | apply Kd.R_drewN | apply Kd.R_drew)); exact HO135.out) hb); have n2_ := Aside0.mk (Kd.R_below (by (with_reducible repeat (first | apply Kd.R_alloc | apply Kd.R_drewN | apply Kd.R_drew)); exact HO140.out) hb); have n3_ := Aside0.mk (below_step (by repeat (first | (with_reducible first | exact HB.out | apply below_alloc | apply pw_below_drewN | apply below_drew1) | exact HB.out)) hb); clear HO130; clear HO135; clear HO140; clear HB; have HO130 := n0_; have HO135 := n1_; have HO140 := n2_; have HB := n3_; clear n0_ n1_ n2_ n3_; (try clear hb); (try clear hb2); (try clear hk); (try clear hi)))
      repeat (go_quiet (first | (go_at_call 12; (fail_if_success (have := HO130)); (with_reducible refine (coppicelaw13_own.calls _ _ l0 t128 _ ?side1 ?side2 A17.out).mono ?_); (case side1 => repeat (first | exact (Kd.C_below HR0.out HB.out) | (with_reducible refine Kd.C_alloc ?_ _) | (with_reducible refine Kd.C_drewN ?_ _) | (with_reducible refine Kd.C_drew ?_))); (case side2 => exact HC0.out); rintro e w25 ⟨v129, rfl, ho0, hb⟩; have n0_ := Aside0.mk (Kd.R_lower ho0 (below_size (by repeat (first | (with_reducible first | exact HB.out | apply below_alloc | apply pw_below_drewN | apply below_drew1) | exact HB.out)))); have n1_ := Aside0.mk (below_step (by repeat (first | (with_reducible first | exact HB.out | apply below_alloc | apply pw_below_drewN | apply below_drew1) | exact HB.out)) hb); clear HB; have HO130 := n0_; have HB := n1_; clear n0_ n1_; (try clear hb); (try clear hb2); (try clear hk); (try clear hi); (try clear ho0); obtain ⟨Ao26, co26, eo26⟩ := Kd.R_slice HO130.out; subst eo26) | (go_at_call 11; (fail_if_success (have := HO135)); (with_reducible refine (sparse_Write.calls kj8 _ _ t128 a1 a2 a3 t131 t132 t133 _ ?side1 ?side2 A18.out).mono ?_); (case side1 => repeat (first | exact (Kd.R_reads' HO130.out).2.2 | (with_reducible refine Kd.C_alloc ?_ _) | (with_reducible refine Kd.C_drewN ?_ _) | (with_reducible refine Kd.C_drew ?_))); (case side2 => exact (Kd.R_reads' HO130.out).2.1); rintro e w27 ⟨v134, rfl, ho0, hb⟩; have n0_ := Aside0.mk (Kd.R_elder' (by (with_reducible repeat (first | apply Kd.R_alloc | apply Kd.R_drewN | apply Kd.R_drew)); exact HO130.out) (Kd.R_base ho0) hb); have n1_ := Aside0.mk (Kd.R_lower (Kd.R_new' ho0 (Kd.R_lt (by (with_reducible repeat (first | apply Kd.R_alloc | apply Kd.R_drewN | apply Kd.R_drew)); exact HO130.out))) (below_size (by repeat (first | (with_reducible first | exact HB.out | apply below_alloc | apply pw_below_drewN | apply below_drew1) | exact HB.out)))); have n2_ := Aside0.mk (below_step (by repeat (first | (with_reducible first | exact HB.out | apply below_alloc | apply pw_below_drewN | apply below_drew1) | exact HB.out)) hb); clear HO130; clear HB; have HO130 := n0_; have HO135 := n1_; have HB := n2_; clear n0_ n1_ n2_; (try clear hb); (try clear hb2); (try clear hk); (try clear hi); (try clear ho0); obtain ⟨Ao28, co28, eo28⟩ := Kd.R_slice HO135.out; subst eo28) | (go_at_call 13; (with_reducible refine (sparse_Read.calls kj8 _ _ t131 t132 a2 (a3.size : Int) t136 t137 _ ?side1 ?side2 A20.out).mono ?_); (case side1 => repeat (first | exact (Kd.R_reads' HO135.out).2.2 | (with_reducible refine Kd.C_alloc ?_ _) | (with_reducible refine Kd.C_drewN ?_ _) | (with_reducible refine Kd.C_drew ?_))); (case side2 => exact (Kd.R_reads' HO135.out).2.1); rintro e w29 ⟨rfl, hb⟩; have n0_ := Aside0.mk (Kd.R_below (by (with_reducible repeat (first | apply Kd.R_alloc | apply Kd.R_drewN | apply Kd.R_drew)); exact HO130.out) hb); have n1_ := Aside0.mk (Kd.R_below (by (with_reducible repeat (first | apply Kd.R_alloc | apply Kd.R_drewN | apply Kd.R_drew)); exact HO135.out) hb); have n2_ := Aside0.mk (below_step (by repeat (first | (with_reducible first | exact HB.out | apply below_alloc | apply pw_below_drewN | apply below_drew1) | exact HB.out)) hb); clear HO130; clear HO135; clear HB; have HO130 := n0_; have HO135 := n1_; have HB := n2_; clear n0_ n1_ n2_; (try clear hb); (try clear hb2); (try clear hk); (try clear hi)) | (go_at_call 12; (fail_if_success (have := HO140)); (with_reducible refine (coppicelaw13_own.calls _ _ l0 t128 _ ?side1 ?side2 A17.out).mono ?_); (case side1 => repeat (first | exact (Kd.C_below HR0.out HB.out) | (with_reducible refine Kd.C_alloc ?_ _) | (with_reducible refine Kd.C_drewN ?_ _) | (with_reducible refine Kd.C_drew ?_))); (case side2 => exact HC0.out); rintro e w30 ⟨v139, rfl, ho0, hb⟩; have n0_ := Aside0.mk (Kd.R_elder' (by (with_reducible repeat (first | apply Kd.R_alloc | apply Kd.R_drewN | apply Kd.R_drew)); exact HO130.out) (Kd.R_base ho0) hb); have n1_ := Aside0.mk (Kd.R_elder' (by (with_reducible repeat (first | apply Kd.R_alloc | apply Kd.R_drewN | apply Kd.R_drew)); exact HO135.out) (Kd.R_base ho0) hb); have n2_ := Aside0.mk (Kd.R_lower (Kd.R_new' (Kd.R_new' ho0 (Kd.R_lt (by (with_reducible repeat (first | apply Kd.R_alloc | apply Kd.R_drewN | apply Kd.R_drew)); exact HO130.out))) (Kd.R_lt (by (with_reducible repeat (first | apply Kd.R_alloc | apply Kd.R_drewN | apply Kd.R_drew)); exact HO135.out))) (below_size (by repeat (first | (with_reducible first | exact HB.out | apply below_alloc | apply pw_below_drewN | apply below_drew1) | exact HB.out)))); have n3_ := Aside0.mk (below_step (by repeat (first | (with_reducible first | exact HB.out | apply below_alloc | apply pw_below_drewN | apply below_drew1) | exact HB.out)) hb); clear HO130; clear HO135; clear HB; have HO130 := n0_; have HO135 := n1_; have HO140 := n2_; have HB := n3_; clear n0_ n1_ n2_ n3_; (try clear hb); (try clear hb2); (try clear hk); (try clear hi); (try clear ho0); obtain ⟨Ao31, co31, eo31⟩ := Kd.R_slice HO140.out; subst eo31) | (go_at_call 13; (with_reducible refine (sparse_Read.calls kj8 _ _ t128 a1 a4 a5 t141 t142 _ ?side1 ?side2 A22.out).mono ?_); (case side1 => repeat (first | exact (Kd.R_reads' HO140.out).2.2 | (with_reducible refine Kd.C_alloc ?_ _) | (with_reducible refine Kd.C_drewN ?_ _) | (with_reducible refine Kd.C_drew ?_))); (case side2 => exact (Kd.R_reads' HO140.out).2.1); rintro e w32 ⟨rfl, hb⟩; have n0_ := Aside0.mk (Kd.R_below (by (with_reducible repeat (first | apply Kd.R_alloc | apply Kd.R_drewN | apply Kd.R_drew)); exact HO130.out) hb); have n1_ := Aside0.mk (Kd.R_below (by (with_reducible repeat (first | apply Kd.R_alloc | apply Kd.R_drewN | apply Kd.R_drew)); exact HO135.out) hb); have n2_ := Aside0.mk (Kd.R_below (by (with_reducible repeat (first | apply Kd.R_alloc | apply Kd.R_drewN | apply Kd.R_drew)); exact HO140.out) hb); have n3_ := Aside0.mk (below_step (by repeat (first | (with_reducible first | exact HB.out | apply below_alloc | apply pw_below_drewN | apply below_drew1) | exact HB.out)) hb); clear HO130; clear HO135; clear HO140; clear HB; have HO130 := n0_; have HO135 := n1_; have HO140 := n2_; have HB := n3_; clear n0_ n1_ n2_ n3_; (try clear hb); (try clear hb2); (try clear hk); (try clear hi)) | (go_at_call 13; (with_reducible refine (sparse_Read.calls kj8 _ _ t131 t132 a4 a5 t143 t144 _ ?side1 ?side2 A23.out).mono ?_); (case side1 => repeat (first | exact (Kd.R_reads' HO135.out).2.2 | (with_reducible refine Kd.C_alloc ?_ _) | (with_reducible refine Kd.C_drewN ?_ _) | (with_reducible refine Kd.C_drew ?_))); (case side2 => exact (Kd.R_reads' HO135.out).2.1); rintro e w33 ⟨rfl, hb⟩; have n0_ := Aside0.mk (Kd.R_below (by (with_reducible repeat (first | apply Kd.R_alloc | apply Kd.R_drewN | apply Kd.R_drew)); exact HO130.out) hb); have n1_ := Aside0.mk (Kd.R_below (by (with_reducible repeat (first | apply Kd.R_alloc | apply Kd.R_drewN | apply Kd.R_drew)); exact HO135.out) hb); have n2_ := Aside0.mk (Kd.R_below (by (with_reducible repeat (first | apply Kd.R_alloc | apply Kd.R_drewN | apply Kd.R_drew)); exact HO140.out) hb); have n3_ := Aside0.mk (below_step (by repeat (first | (with_reducible first | exact HB.out | apply below_alloc | apply pw_below_drewN | apply below_drew1) | exact HB.out)) hb); clear HO130; clear HO135; clear HO140; clear HB; have HO130 := n0_; have HO135 := n1_; have HO140 := n2_; have HB := n3_; clear n0_ n1_ n2_ n3_; (try clear hb); (try clear hb2); (try clear hk); (try clear hi))); go_upto_region 11 with (first | (go_at_call 12; (fail_if_success (have := HO130)); (with_reducible refine (coppicelaw13_own.calls _ _ l0 t128 _ ?side1 ?side2 A17.out).mono ?_); (case side1 => repeat (first | exact (Kd.C_below HR0.out HB.out) | (with_reducible refine Kd.C_alloc ?_ _) | (with_reducible refine Kd.C_drewN ?_ _) | (with_reducible refine Kd.C_drew ?_))); (case side2 => exact HC0.out); rintro e w25 ⟨v129, rfl, ho0, hb⟩; have n0_ := Aside0.mk (Kd.R_lower ho0 (below_size (by repeat (first | (with_reducible first | exact HB.out | apply below_alloc | apply pw_below_drewN | apply below_drew1) | exact HB.out)))); have n1_ := Aside0.mk (below_step (by repeat (first | (with_reducible first | exact HB.out | apply below_alloc | apply pw_below_drewN | apply below_drew1) | exact HB.out)) hb); clear HB; have HO130 := n0_; have HB := n1_; clear n0_ n1_; (try clear hb); (try clear hb2); (try clear hk); (try clear hi); (try clear ho0); obtain ⟨Ao26, co26, eo26⟩ := Kd.R_slice HO130.out; subst eo26) | (go_at_call 11; (with_reducible refine (sparse_Write.calls kj8 _ _ t128 a1 a2 a3 t131 t132 t133 _ ?side1 ?side2 A18.out).mono ?_); (case side1 => repeat (first | exact (Kd.R_reads' HO130.out).2.2 | (with_reducible refine Kd.C_alloc ?_ _) | (with_reducible refine Kd.C_drewN ?_ _) | (with_reducible refine Kd.C_drew ?_))); (case side2 => exact (Kd.R_reads' HO130.out).2.1); rintro e w27 ⟨v134, rfl, ho0, hb⟩; have n0_ := Aside0.mk (Kd.R_elder' (by (with_reducible repeat (first | apply Kd.R_alloc | apply Kd.R_drewN | apply Kd.R_drew)); exact HO130.out) (Kd.R_base ho0) hb); have n1_ := Aside0.mk (Kd.R_lower (Kd.R_new' ho0 (Kd.R_lt (by (with_reducible repeat (first | apply Kd.R_alloc | apply Kd.R_drewN | apply Kd.R_drew)); exact HO130.out))) (below_size (by repeat (first | (with_reducible first | exact HB.out | apply below_alloc | apply pw_below_drewN | apply below_drew1) | exact HB.out)))); have n2_ := Aside0.mk (below_step (by repeat (first | (with_reducible first | exact HB.out | apply below_alloc | apply pw_below_drewN | apply below_drew1) | exact HB.out)) hb); clear HO130; clear HB; have HO130 := n0_; have HO135 := n1_; have HB := n2_; clear n0_ n1_ n2_; (try clear hb); (try clear hb2); (try clear hk); (try clear hi); (try clear ho0); obtain ⟨Ao28, co28, eo28⟩ := Kd.R_slice HO135.out; subst eo28) | (go_at_call 13; (with_reducible refine (sparse_Read.calls kj8 _ _ t131 t132 a2 (a3.size : Int) t136 t137 _ ?side1 ?side2 A20.out).mono ?_); (case side1 => repeat (first | exact (Kd.R_reads' HO135.out).2.2 | (with_reducible refine Kd.C_alloc ?_ _) | (with_reducible refine Kd.C_drewN ?_ _) | (with_reducible refine Kd.C_drew ?_))); (case side2 => exact (Kd.R_reads' HO135.out).2.1); rintro e w29 ⟨rfl, hb⟩; have n0_ := Aside0.mk (Kd.R_below (by (with_reducible repeat (first | apply Kd.R_alloc | apply Kd.R_drewN | apply Kd.R_drew)); exact HO130.out) hb); have n1_ := Aside0.mk (Kd.R_below (by (with_reducible repeat (first | apply Kd.R_alloc | apply Kd.R_drewN | apply Kd.R_drew)); exact HO135.out) hb); have n2_ := Aside0.mk (below_step (by repeat (first | (with_reducible first | exact HB.out | apply below_alloc | apply pw_below_drewN | apply below_drew1) | exact HB.out)) hb); clear HO130; clear HO135; clear HB; have HO130 := n0_; have HO135 := n1_; have HB := n2_; clear n0_ n1_ n2_; (try clear hb); (try clear hb2); (try clear hk); (try clear hi)) | (go_at_call 12; (with_reducible refine (coppicelaw13_own.calls _ _ l0 t128 _ ?side1 ?side2 A17.out).mono ?_); (case side1 => repeat (first | exact (Kd.C_below HR0.out HB.out) | (with_reducible refine Kd.C_alloc ?_ _) | (with_reducible refine Kd.C_drewN ?_ _) | (with_reducible refine Kd.C_drew ?_))); (case side2 => exact HC0.out); rintro e w30 ⟨v139, rfl, ho0, hb⟩; have n0_ := Aside0.mk (Kd.R_elder' (by (with_reducible repeat (first | apply Kd.R_alloc | apply Kd.R_drewN | apply Kd.R_drew)); exact HO130.out) (Kd.R_base ho0) hb); have n1_ := Aside0.mk (Kd.R_elder' (by (with_reducible repeat (first | apply Kd.R_alloc | apply Kd.R_drewN | apply Kd.R_drew)); exact HO135.out) (Kd.R_base ho0) hb); have n2_ := Aside0.mk (Kd.R_lower (Kd.R_new' (Kd.R_new' ho0 (Kd.R_lt (by (with_reducible repeat (first | apply Kd.R_alloc | apply Kd.R_drewN | apply Kd.R_drew)); exact HO130.out))) (Kd.R_lt (by (with_reducible repeat (first | apply Kd.R_alloc | apply Kd.R_drewN | apply Kd.R_drew)); exact HO135.out))) (below_size (by repeat (first | (with_reducible first | exact HB.out | apply below_alloc | apply pw_below_drewN | apply below_drew1) | exact HB.out)))); have n3_ := Aside0.mk (below_step (by repeat (first | (with_reducible first | exact HB.out | apply below_alloc | apply pw_below_drewN | apply below_drew1) | exact HB.out)) hb); clear HO130; clear HO135; clear HB; have HO130 := n0_; have HO135 := n1_; have HO140 := n2_; have HB := n3_; clear n0_ n1_ n2_ n3_; (try clear hb); (try clear hb2); (try clear hk); (try clear hi); (try clear ho0); obtain ⟨Ao31, co31, eo31⟩ := Kd.R_slice HO140.out; subst eo31) | (go_at_call 13; (with_reducible refine (sparse_Read.calls kj8 _ _ t128 a1 a4 a5 t141 t142 _ ?side1 ?side2 A22.out).mono ?_); (case side1 => repeat (first | exact (Kd.R_reads' HO140.out).2.2 | (with_reducible refine Kd.C_alloc ?_ _) | (with_reducible refine Kd.C_drewN ?_ _) | (with_reducible refine Kd.C_drew ?_))); (case side2 => exact (Kd.R_reads' HO140.out).2.1); rintro e w32 ⟨rfl, hb⟩; have n0_ := Aside0.mk (Kd.R_below (by (with_reducible repeat (first | apply Kd.R_alloc | apply Kd.R_drewN | apply Kd.R_drew)); exact HO130.out) hb); have n1_ := Aside0.mk (Kd.R_below (by (with_reducible repeat (first | apply Kd.R_alloc | apply Kd.R_drewN | apply Kd.R_drew)); exact HO135.out) hb); have n2_ := Aside0.mk (Kd.R_below (by (with_reducible repeat (first | apply Kd.R_alloc | apply Kd.R_drewN | apply Kd.R_drew)); exact HO140.out) hb); have n3_ := Aside0.mk (below_step (by repeat (first | (with_reducible first | exact HB.out | apply below_alloc | apply pw_below_drewN | apply below_drew1) | exact HB.out)) hb); clear HO130; clear HO135; clear HO140; clear HB; have HO130 := n0_; have HO135 := n1_; have HO140 := n2_; have HB := n3_; clear n0_ n1_ n2_ n3_; (try clear hb); (try clear hb2); (try clear hk); (try clear hi)) | (go_at_call 13; (with_reducible refine (sparse_Read.calls kj8 _ _ t131 t132 a4 a5 t143 t144 _ ?side1 ?side2 A23.out).mono ?_); (case side1 => repeat (first | exact (Kd.R_reads' HO135.out).2.2 | (with_reducible refine Kd.C_alloc ?_ _) | (with_reducible refine Kd.C_drewN ?_ _) | (with_reducible refine Kd.C_drew ?_))); (case side2 => exact (Kd.R_reads' HO135.out).2.1); rintro e w33 ⟨rfl, hb⟩; have n0_ := Aside0.mk (Kd.R_below (by (with_reducible repeat (first | apply Kd.R_alloc | apply Kd.R_drewN | apply Kd.R_drew)); exact HO130.out) hb); have n1_ := Aside0.mk (Kd.R_below (by (with_reducible repeat (first | apply Kd.R_alloc | apply Kd.R_drewN | apply Kd.R_drew)); exact HO135.out) hb); have n2_ := Aside0.mk (Kd.R_below (by (with_reducible repeat (first | apply Kd.R_alloc | apply Kd.R_drewN | apply Kd.R_drew)); exact HO140.out) hb); have n3_ := Aside0.mk (below_step (by repeat (first | (with_reducible first | exact HB.out | apply below_alloc | apply pw_below_drewN | apply below_drew1) | exact HB.out)) hb); clear HO130; clear HO135; clear HO140; clear HB; have HO130 := n0_; have HO135 := n1_; have HO140 := n2_; have HB := n3_; clear n0_ n1_ n2_ n3_; (try clear hb); (try clear hb2); (try clear hk); (try clear hi))))
      (try simp only [Act.put, List.setIfInBounds_toArray, List.set_cons_zero, List.set_cons_succ])
      go_cut [111] (fun v111 wc => ∃ (kq : Nat) (x111_23 : Bool), v111 = .bool x111_23 ∧ Aside0 (coppicelaw13_SparseWrites.j1 kq a2 a3 a4 t141 t143 x111_23 = some r) ∧ Aside0 (kq ≤ kj8) ∧ Aside0 (Below w.heap.size w wc))
      case first =>
       have H := HC24.out
       clear HC24
       by_cases c34 : t137 = 0
       ·rw [if_pos c34] at H
        have c34b0 : (t137 == 0) = true := beq_iff_eq.mpr c34
        have c34b1 : (t137 != 0) = false := bne_eq_false_iff_eq.mpr c34
        clear c34
        (first | rw [c34b0] | (simp only [i64_w, i32_w]; rw [c34b0]) | skip)
        by_cases c35 : t142 = 0
        ·rw [if_pos c35] at H
         have c35b0 : (t142 == 0) = true := beq_iff_eq.mpr c35
         have c35b1 : (t142 != 0) = false := bne_eq_false_iff_eq.mpr c35
         clear c35
         by_cases c36 : t144 = 0
         ·rw [if_pos c36] at H
          have c36b0 : (t144 == 0) = true := beq_iff_eq.mpr c36
          have c36b1 : (t144 != 0) = false := bne_eq_false_iff_eq.mpr c36
          clear c36
          by_cases c37 : t136.toList = a3.toList
          ·rw [if_pos c37] at H
           have c37b0 : (t136.toList == a3.toList) = true := beq_iff_eq.mpr c37
           have c37b1 : (t136.toList != a3.toList) = false := bne_eq_false_iff_eq.mpr c37
           clear c37
           have H' := Aside0.mk H
           clear H
           go_wp2
           repeat (go_quiet (fail); try go_wp2)
           go_meet
           case rel => exact ⟨_, (decide ((t143.size : Int) < (t141.size : Int))), (by first | rfl | (simp; done) | (simp [*]; done)), H', ⟨by have := HJ8.out; first | omega | exact Nat.le_refl _⟩, ⟨by repeat (first | (with_reducible first | exact HB.out | apply below_alloc | apply pw_below_drewN | apply below_drew1) | exact HB.out)⟩⟩
          ·rw [if_neg c37] at H
           have c37b0 : (t136.toList == a3.toList) = false := beq_eq_false_iff_ne.mpr c37
           have c37b1 : (t136.toList != a3.toList) = true := bne_iff_ne.mpr c37
           have H' := Aside0.mk H
           clear H
           go_wp2
           repeat (go_quiet (fail); try go_wp2)
           go_meet
           case rel => exact ⟨_, (true), (by first | rfl | (simp; done) | (simp [*]; done)), H', ⟨by have := HJ8.out; first | omega | exact Nat.le_refl _⟩, ⟨by repeat (first | (with_reducible first | exact HB.out | apply below_alloc | apply pw_below_drewN | apply below_drew1) | exact HB.out)⟩⟩
         ·rw [if_neg c36] at H
          have c36b0 : (t144 == 0) = false := beq_eq_false_iff_ne.mpr c36
          have c36b1 : (t144 != 0) = true := bne_iff_ne.mpr c36
          have H' := Aside0.mk H
          clear H
          go_wp2
          repeat (go_quiet (fail); try go_wp2)
          go_meet
          case rel => exact ⟨_, (true), (by first | rfl | (simp; done) | (simp [*]; done)), H', ⟨by have := HJ8.out; first | omega | exact Nat.le_refl _⟩, ⟨by repeat (first | (with_reducible first | exact HB.out | apply below_alloc | apply pw_below_drewN | apply below_drew1) | exact HB.out)⟩⟩
        ·rw [if_neg c35] at H
         have c35b0 : (t142 == 0) = false := beq_eq_false_iff_ne.mpr c35
         have c35b1 : (t142 != 0) = true := bne_iff_ne.mpr c35
         have H' := Aside0.mk H
         clear H
         go_wp2
         repeat (go_quiet (fail); try go_wp2)
         go_meet
         case rel => exact ⟨_, (true), (by first | rfl | (simp; done) | (simp [*]; done)), H', ⟨by have := HJ8.out; first | omega | exact Nat.le_refl _⟩, ⟨by repeat (first | (with_reducible first | exact HB.out | apply below_alloc | apply pw_below_drewN | apply below_drew1) | exact HB.out)⟩⟩
       ·rw [if_neg c34] at H
        have c34b0 : (t137 == 0) = false := beq_eq_false_iff_ne.mpr c34
        have c34b1 : (t137 != 0) = true := bne_iff_ne.mpr c34
        (first | rw [c34b0] | (simp only [i64_w, i32_w]; rw [c34b0]) | skip)
        have H' := Aside0.mk H
        clear H
        go_wp2
        repeat (go_quiet (fail); try go_wp2)
        go_meet
        case rel => exact ⟨_, (true), (by first | rfl | (simp; done) | (simp [*]; done)), H', ⟨by have := HJ8.out; first | omega | exact Nat.le_refl _⟩, ⟨by repeat (first | (with_reducible first | exact HB.out | apply below_alloc | apply pw_below_drewN | apply below_drew1) | exact HB.out)⟩⟩
      case rest =>
       clear HC24
       try clear c1
       try clear p2
       try clear c3
       try clear c8
       try clear c12
       try clear c13
       try clear c13b0
       try clear c13b1
       try clear c14
       try clear c14b0
       try clear c15
       try clear c15b0
       try clear c16
       try clear c19
       try clear c19b0
       try clear c19b1
       try clear c34
       try clear c34b0
       try clear c34b1
       try clear c35
       try clear c35b0
       try clear c35b1
       try clear c36
       try clear c36b0
       try clear c36b1
       try clear c37
       try clear c37b0
       try clear c37b1
       try clear p2
       obtain ⟨kq, x111_23, rfl, HA, HJ23, HB⟩ := hcut
       cases kq with
       | zero => exact absurd HA.out (by simp [coppicelaw13_SparseWrites.j1])
       | succ kj23 =>
        have H := HA.out
        clear HA
        simp only [coppicelaw13_SparseWrites.j1] at H
        by_cases c38 : x111_23 = true
        ·subst c38
         have H1 : (some false) = some r := by rw [if_pos rfl] at H; exact H
         clear H
         have H := H1
         clear H1
         obtain rfl := Option.some.inj H
         go_wp2
         repeat (go_quiet (fail); try go_wp2)
         go_ret
         exact ⟨by first | rfl | (simp [errW_none, errW_some] <;> rfl) | (simp [*, errW_none, errW_some] <;> rfl), by repeat (first | (with_reducible first | exact HB.out | apply below_alloc | apply pw_below_drewN | apply below_drew1) | exact HB.out)⟩
        ·replace c38 := Bool.eq_false_iff.mpr c38
         subst c38
         have H1 : (coppicelaw13_SparseWrites.l0 kj23 a2 a3 a4 t141 t143 0) = some r := by rw [if_neg (show ¬ (false = true) by decide)] at H; exact H
         clear H
         have H := H1
         clear H1
         have H' := Aside0.mk H
         clear H
         go_wp2
         repeat (go_quiet (fail); try go_wp2)
         go_loopg [22] kj23 (fun kq v22 w' => ∃ (x22_3 : Int), v22 = .int .i64 x22_3 ∧ Aside0 (coppicelaw13_SparseWrites.l0 kq a2 a3 a4 t141 t143 x22_3 = some r) ∧ Aside0 (kq ≤ kj23) ∧ Aside0 (Below w.heap.size w w'))
         case atStart => exact ⟨(0), (by first | rfl | (simp; done) | (simp [*]; done)), H', ⟨Nat.le_refl _⟩, ⟨by repeat (first | (with_reducible first | exact HB.out | apply below_alloc | apply pw_below_drewN | apply below_drew1) | exact HB.out)⟩⟩
         case round =>
          clear H'
          try clear c1
          try clear p2
          try clear c3
          try clear c8
          try clear c12
          try clear c13
          try clear c13b0
          try clear c13b1
          try clear c14
          try clear c14b0
          try clear c15
          try clear c15b0
          try clear c16
          try clear c19
          try clear c19b0
          try clear c19b1
          try clear c34
          try clear c34b0
          try clear c34b1
          try clear c35
          try clear c35b0
          try clear c35b1
          try clear c36
          try clear c36b0
          try clear c36b1
          try clear c37
          try clear c37b0
          try clear c37b1
          try clear c38
          try clear p2
          obtain ⟨x22_3, rfl, HA, HK3, HB⟩ := hrel
          cases gk with
          | zero => exact absurd HA.out (by simp [coppicelaw13_SparseWrites.l0])
          | succ k3 =>
           have H := HA.out
           clear HA
           simp only [coppicelaw13_SparseWrites.l0] at H
           by_cases c39 : x22_3 < (t143.size : Int)
           ·rw [if_pos c39] at H
            have c39b0 : decide (x22_3 < (t143.size : Int)) = true := decide_eq_true c39
            clear c39
            have HC40 := Aside0.mk H
            clear H
            go_upto_region 17 with (fail)
            repeat (go_quiet (fail); go_upto_region 17 with (fail))
            go_cut [131] (fun v131 wc => ∃ (kq : Nat) (x131_39 : Bool), v131 = .bool x131_39 ∧ Aside0 (coppicelaw13_SparseWrites.j3 kq a2 a3 a4 t141 t143 x22_3 (wrap64 (a4 + x22_3)) x131_39 = some r) ∧ Aside0 (kq ≤ k3) ∧ Aside0 (Below w.heap.size w wc))
            case first =>
             have H := HC40.out
             clear HC40
             by_cases c41 : (wrap64 (a4 + x22_3)) ≥ a2
             ·rw [if_pos c41] at H
              have c41b0 : decide (a2 ≤ (wrap64 (a4 + x22_3))) = true := decide_eq_true c41
              clear c41
              (first | rw [c41b0] | (simp only [i64_w, i32_w]; rw [c41b0]) | skip)
              have H' := Aside0.mk H
              clear H
              go_wp2
              repeat (go_quiet (fail); try go_wp2)
              go_meet
              case rel => exact ⟨_, (decide ((wrap64 ((wrap64 (a4 + x22_3)) - a2)) < (a3.size : Int))), (by first | rfl | (simp; done) | (simp [*]; done)), H', ⟨by have := HJ8.out; have := HJ23.out; have := HK3.out; first | omega | exact Nat.le_refl _⟩, ⟨by repeat (first | (with_reducible first | exact HB.out | apply below_alloc | apply pw_below_drewN | apply below_drew1) | exact HB.out)⟩⟩
             ·rw [if_neg c41] at H
              have c41b0 : decide (a2 ≤ (wrap64 (a4 + x22_3))) = false := decide_eq_false c41
              clear c41
              (first | rw [c41b0] | (simp only [i64_w, i32_w]; rw [c41b0]) | skip)
              have H' := Aside0.mk H
              clear H
              go_wp2
              repeat (go_quiet (fail); try go_wp2)
              go_meet
              case rel => exact ⟨_, (false), (by first | rfl | (simp; done) | (simp [*]; done)), H', ⟨by have := HJ8.out; have := HJ23.out; have := HK3.out; first | omega | exact Nat.le_refl _⟩, ⟨by repeat (first | (with_reducible first | exact HB.out | apply below_alloc | apply pw_below_drewN | apply below_drew1) | exact HB.out)⟩⟩
            case rest =>
             clear HC40
             try clear c1
             try clear p2
             try clear c3
             try clear c4
             try clear p6
             try clear c8
             try clear c12
             try clear c13
             try clear c13b0
             try clear c13b1
             try clear c14
             try clear c14b0
             try clear c15
             try clear c15b0
             try clear c16
             try clear c19
             try clear c19b0
             try clear c19b1
             try clear c34
             try clear c34b0
             try clear c34b1
             try clear c35
             try clear c35b0
             try clear c35b1
             try clear c36
             try clear c36b0
             try clear c36b1
             try clear c37
             try clear c37b0
             try clear c37b1
             try clear c38
             try clear c39
             try clear c39b0
             try clear c41
             try clear c41b0
             try clear p2
             obtain ⟨kq, x131_39, rfl, HA, HJ39, HB⟩ := hcut
             cases kq with
             | zero => exact absurd HA.out (by simp [coppicelaw13_SparseWrites.j3])
             | succ kj39 =>
              have H := HA.out
              clear HA
              simp only [coppicelaw13_SparseWrites.j3] at H
              by_cases c42 : x131_39 = true
              ·subst c42
               have H1 : (if 0 ≤ x22_3 then (if x22_3 < (t143.size : Int) then (if 0 ≤ (wrap64 ((wrap64 (a4 + x22_3)) - a2)) then (if (wrap64 ((wrap64 (a4 + x22_3)) - a2)) < (a3.size : Int) then (if (bt t143 x22_3) = (bt a3 (wrap64 ((wrap64 (a4 + x22_3)) - a2))) then (coppicelaw13_SparseWrites.l0 kj39 a2 a3 a4 t141 t143 (wrap64 (x22_3 + 1))) else (some false)) else (none)) else (none)) else (none)) else (none)) = some r := by rw [if_pos rfl] at H; exact H
               clear H
               have H := H1
               clear H1
               by_cases c43 : 0 ≤ x22_3
               ·rw [if_pos c43] at H
                have c43b0 : decide (0 ≤ x22_3) = true := decide_eq_true c43
                clear c43
                by_cases c44 : x22_3 < (t143.size : Int)
                ·rw [if_pos c44] at H
                 have c44b0 : decide (x22_3 < (t143.size : Int)) = true := decide_eq_true c44
                 clear c44
                 obtain ⟨ji46, hji46⟩ : ∃ j_ : Int, (wrap64 ((wrap64 (a4 + x22_3)) - a2)) = j_ := ⟨_, rfl⟩
                 replace H : (if 0 ≤ (ji46) then (if (ji46) < (a3.size : Int) then (if (bt t143 x22_3) = (bt a3 (ji46)) then (coppicelaw13_SparseWrites.l0 kj39 a2 a3 a4 t141 t143 (wrap64 (x22_3 + 1))) else (some false)) else (none)) else (none)) = some r := by first | (rw [hji46] at H; exact H) | (simp only [hji46] at H ⊢; exact H)
                 have hji46w : (IntKind.i64.wrap ((wrap64 (a4 + x22_3)) - a2)) = ji46 := (i64_w _).trans hji46
                 by_cases c47 : 0 ≤ (ji46)
                 ·rw [if_pos c47] at H
                  have c47b0 : decide (0 ≤ (ji46)) = true := decide_eq_true c47
                  clear c47
                  by_cases c48 : (ji46) < (a3.size : Int)
                  ·rw [if_pos c48] at H
                   have c48b0 : decide ((ji46) < (a3.size : Int)) = true := decide_eq_true c48
                   clear c48
                   by_cases c50 : (bt t143 x22_3) = (bt a3 (ji46))
                   ·rw [if_pos c50] at H
                    have c50b0 : ((bt t143 x22_3) == (bt a3 (ji46))) = true := beq_iff_eq.mpr c50
                    have c50b1 : ((bt t143 x22_3) != (bt a3 (ji46))) = false := bne_eq_false_iff_eq.mpr c50
                    clear c50
                    have H' := Aside0.mk H
                    clear H
                    have p45 : 0 ≤ (x22_3 : Int) := of_decide_eq_true (by first | (with_reducible assumption) | assumption)
                    have q45 : x22_3 < (t143.size : Int) := of_decide_eq_true (by first | (with_reducible assumption) | assumption)
                    have hx45 := bt_at t143 x22_3
                    replace p45 := eq_true p45
                    replace q45 := eq_true q45
                    have p49 : 0 ≤ ((ji46) : Int) := of_decide_eq_true (by first | (with_reducible assumption) | assumption)
                    have q49 : (ji46) < (a3.size : Int) := of_decide_eq_true (by first | (with_reducible assumption) | assumption)
                    have hx49 := bt_at a3 (ji46)
                    replace p49 := eq_true p49
                    replace q49 := eq_true q49
                    go_wp2
                    repeat (go_quiet (fail); try go_wp2)
                    go_roundg kj39
                    case measure => have := HJ8.out; have := HJ23.out; have := HK3.out; have := HJ39.out; omega
                    case rel => exact ⟨(wrap64 (x22_3 + 1)), (by first | rfl | (simp; done) | (simp [*]; done)), H', ⟨by have := HJ8.out; have := HJ23.out; have := HK3.out; have := HJ39.out; omega⟩, ⟨by repeat (first | (with_reducible first | exact HB.out | apply below_alloc | apply pw_below_drewN | apply below_drew1) | exact HB.out)⟩⟩
                   ·rw [if_neg c50] at H
                    have c50b0 : ((bt t143 x22_3) == (bt a3 (ji46))) = false := beq_eq_false_iff_ne.mpr c50
                    have c50b1 : ((bt t143 x22_3) != (bt a3 (ji46))) = true := bne_iff_ne.mpr c50
                    obtain rfl := Option.some.inj H
                    have p45 : 0 ≤ (x22_3 : Int) := of_decide_eq_true (by first | (with_reducible assumption) | assumption)
                    have q45 : x22_3 < (t143.size : Int) := of_decide_eq_true (by first | (with_reducible assumption) | assumption)
                    have hx45 := bt_at t143 x22_3
                    replace p45 := eq_true p45
                    replace q45 := eq_true q45
                    have p49 : 0 ≤ ((ji46) : Int) := of_decide_eq_true (by first | (with_reducible assumption) | assumption)
                    have q49 : (ji46) < (a3.size : Int) := of_decide_eq_true (by first | (with_reducible assumption) | assumption)
                    have hx49 := bt_at a3 (ji46)
                    replace p49 := eq_true p49
                    replace q49 := eq_true q49
                    go_wp2
                    repeat (go_quiet (fail); try go_wp2)
                    go_ret
                    exact ⟨by first | rfl | (simp [errW_none, errW_some] <;> rfl) | (simp only [← hji46]; first | rfl | (simp [errW_none, errW_some] <;> rfl)) | (simp [*, errW_none, errW_some] <;> rfl), by repeat (first | (with_reducible first | exact HB.out | apply below_alloc | apply pw_below_drewN | apply below_drew1) | exact HB.out)⟩
                  ·rw [if_neg c48] at H
                   exact absurd H (by simp)
                 ·rw [if_neg c47] at H
                  exact absurd H (by simp)
                ·rw [if_neg c44] at H
                 exact absurd H (by simp)
               ·rw [if_neg c43] at H
                exact absurd H (by simp)
              ·replace c42 := Bool.eq_false_iff.mpr c42
               subst c42
               have H1 : (if x22_3 < (t141.size : Int) then (if 0 ≤ x22_3 then (if x22_3 < (t143.size : Int) then (if (bt t143 x22_3) = (bt t141 x22_3) then (if x22_3 ≥ (t141.size : Int) then (if (bt t143 x22_3) = 0 then (coppicelaw13_SparseWrites.l0 kj39 a2 a3 a4 t141 t143 (wrap64 (x22_3 + 1))) else (some false)) else (coppicelaw13_SparseWrites.l0 kj39 a2 a3 a4 t141 t143 (wrap64 (x22_3 + 1)))) else (some false)) else (none)) else (none)) else (if x22_3 ≥ (t141.size : Int) then (if 0 ≤ x22_3 then (if x22_3 < (t143.size : Int) then (if (bt t143 x22_3) = 0 then (coppicelaw13_SparseWrites.l0 kj39 a2 a3 a4 t141 t143 (wrap64 (x22_3 + 1))) else (some false)) else (none)) else (none)) else (coppicelaw13_SparseWrites.l0 kj39 a2 a3 a4 t141 t143 (wrap64 (x22_3 + 1))))) = some r := by rw [if_neg (show ¬ (false = true) by decide)] at H; exact H
               clear H
               have H := H1
               clear H1
               by_cases c51 : x22_3 < (t141.size : Int)
               ·rw [if_pos c51] at H
                have c51b0 : decide (x22_3 < (t141.size : Int)) = true := decide_eq_true c51
                clear c51
                by_cases c52 : 0 ≤ x22_3
                ·rw [if_pos c52] at H
                 have c52b0 : decide (0 ≤ x22_3) = true := decide_eq_true c52
                 clear c52
                 by_cases c53 : x22_3 < (t143.size : Int)
                 ·rw [if_pos c53] at H
                  have c53b0 : decide (x22_3 < (t143.size : Int)) = true := decide_eq_true c53
                  clear c53
                  by_cases c56 : (bt t143 x22_3) = (bt t141 x22_3)
                  ·rw [if_pos c56] at H
                   have c56b0 : ((bt t143 x22_3) == (bt t141 x22_3)) = true := beq_iff_eq.mpr c56
                   have c56b1 : ((bt t143 x22_3) != (bt t141 x22_3)) = false := bne_eq_false_iff_eq.mpr c56
                   clear c56
                   by_cases c57 : x22_3 ≥ (t141.size : Int)
                   ·rw [if_pos c57] at H
                    have c57b0 : decide ((t141.size : Int) ≤ x22_3) = true := decide_eq_true c57
                    clear c57
                    by_cases c59 : (bt t143 x22_3) = 0
                    ·rw [if_pos c59] at H
                     have c59b0 : ((bt t143 x22_3) == 0) = true := beq_iff_eq.mpr c59
                     have c59b1 : ((bt t143 x22_3) != 0) = false := bne_eq_false_iff_eq.mpr c59
                     clear c59
                     have H' := Aside0.mk H
                     clear H
                     have p54 : 0 ≤ (x22_3 : Int) := of_decide_eq_true (by first | (with_reducible assumption) | assumption)
                     have q54 : x22_3 < (t143.size : Int) := of_decide_eq_true (by first | (with_reducible assumption) | assumption)
                     have hx54 := bt_at t143 x22_3
                     replace p54 := eq_true p54
                     replace q54 := eq_true q54
                     have p55 : 0 ≤ (x22_3 : Int) := of_decide_eq_true (by first | (with_reducible assumption) | assumption)
                     have q55 : x22_3 < (t141.size : Int) := of_decide_eq_true (by first | (with_reducible assumption) | assumption)
                     have hx55 := bt_at t141 x22_3
                     replace p55 := eq_true p55
                     replace q55 := eq_true q55
                     have p58 : 0 ≤ (x22_3 : Int) := of_decide_eq_true (by first | (with_reducible assumption) | assumption)
                     have q58 : x22_3 < (t143.size : Int) := of_decide_eq_true (by first | (with_reducible assumption) | assumption)
                     have hx58 := bt_at t143 x22_3
                     replace p58 := eq_true p58
                     replace q58 := eq_true q58
                     go_wp2
                     repeat (go_quiet (fail); try go_wp2)
                     go_roundg kj39
                     case measure => have := HJ8.out; have := HJ23.out; have := HK3.out; have := HJ39.out; omega
                     case rel => exact ⟨(wrap64 (x22_3 + 1)), (by first | rfl | (simp; done) | (simp [*]; done)), H', ⟨by have := HJ8.out; have := HJ23.out; have := HK3.out; have := HJ39.out; omega⟩, ⟨by repeat (first | (with_reducible first | exact HB.out | apply below_alloc | apply pw_below_drewN | apply below_drew1) | exact HB.out)⟩⟩
                    ·rw [if_neg c59] at H
                     have c59b0 : ((bt t143 x22_3) == 0) = false := beq_eq_false_iff_ne.mpr c59
                     have c59b1 : ((bt t143 x22_3) != 0) = true := bne_iff_ne.mpr c59
                     obtain rfl := Option.some.inj H
                     have p54 : 0 ≤ (x22_3 : Int) := of_decide_eq_true (by first | (with_reducible assumption) | assumption)
                     have q54 : x22_3 < (t143.size : Int) := of_decide_eq_true (by first | (with_reducible assumption) | assumption)
                     have hx54 := bt_at t143 x22_3
                     replace p54 := eq_true p54
                     replace q54 := eq_true q54
                     have p55 : 0 ≤ (x22_3 : Int) := of_decide_eq_true (by first | (with_reducible assumption) | assumption)
                     have q55 : x22_3 < (t141.size : Int) := of_decide_eq_true (by first | (with_reducible assumption) | assumption)
                     have hx55 := bt_at t141 x22_3
                     replace p55 := eq_true p55
                     replace q55 := eq_true q55
                     have p58 : 0 ≤ (x22_3 : Int) := of_decide_eq_true (by first | (with_reducible assumption) | assumption)
                     have q58 : x22_3 < (t143.size : Int) := of_decide_eq_true (by first | (with_reducible assumption) | assumption)
                     have hx58 := bt_at t143 x22_3
                     replace p58 := eq_true p58
                     replace q58 := eq_true q58
                     go_wp2
                     repeat (go_quiet (fail); try go_wp2)
                     go_ret
                     exact ⟨by first | rfl | (simp [errW_none, errW_some] <;> rfl) | (simp [*, errW_none, errW_some] <;> rfl), by repeat (first | (with_reducible first | exact HB.out | apply below_alloc | apply pw_below_drewN | apply below_drew1) | exact HB.out)⟩
                   ·rw [if_neg c57] at H
                    have c57b0 : decide ((t141.size : Int) ≤ x22_3) = false := decide_eq_false c57
                    clear c57
                    have H' := Aside0.mk H
                    clear H
                    have p54 : 0 ≤ (x22_3 : Int) := of_decide_eq_true (by first | (with_reducible assumption) | assumption)
                    have q54 : x22_3 < (t143.size : Int) := of_decide_eq_true (by first | (with_reducible assumption) | assumption)
                    have hx54 := bt_at t143 x22_3
                    replace p54 := eq_true p54
                    replace q54 := eq_true q54
                    have p55 : 0 ≤ (x22_3 : Int) := of_decide_eq_true (by first | (with_reducible assumption) | assumption)
                    have q55 : x22_3 < (t141.size : Int) := of_decide_eq_true (by first | (with_reducible assumption) | assumption)
                    have hx55 := bt_at t141 x22_3
                    replace p55 := eq_true p55
                    replace q55 := eq_true q55
                    go_wp2
                    repeat (go_quiet (fail); try go_wp2)
                    go_roundg kj39
                    case measure => have := HJ8.out; have := HJ23.out; have := HK3.out; have := HJ39.out; omega
                    case rel => exact ⟨(wrap64 (x22_3 + 1)), (by first | rfl | (simp; done) | (simp [*]; done)), H', ⟨by have := HJ8.out; have := HJ23.out; have := HK3.out; have := HJ39.out; omega⟩, ⟨by repeat (first | (with_reducible first | exact HB.out | apply below_alloc | apply pw_below_drewN | apply below_drew1) | exact HB.out)⟩⟩
                  ·rw [if_neg c56] at H
                   have c56b0 : ((bt t143 x22_3) == (bt t141 x22_3)) = false := beq_eq_false_iff_ne.mpr c56
                   have c56b1 : ((bt t143 x22_3) != (bt t141 x22_3)) = true := bne_iff_ne.mpr c56
                   obtain rfl := Option.some.inj H
                   have p54 : 0 ≤ (x22_3 : Int) := of_decide_eq_true (by first | (with_reducible assumption) | assumption)
                   have q54 : x22_3 < (t143.size : Int) := of_decide_eq_true (by first | (with_reducible assumption) | assumption)
                   have hx54 := bt_at t143 x22_3
                   replace p54 := eq_true p54
                   replace q54 := eq_true q54
                   have p55 : 0 ≤ (x22_3 : Int) := of_decide_eq_true (by first | (with_reducible assumption) | assumption)
                   have q55 : x22_3 < (t141.size : Int) := of_decide_eq_true (by first | (with_reducible assumption) | assumption)
                   have hx55 := bt_at t141 x22_3
                   replace p55 := eq_true p55
                   replace q55 := eq_true q55
                   go_wp2
                   repeat (go_quiet (fail); try go_wp2)
                   go_ret
                   exact ⟨by first | rfl | (simp [errW_none, errW_some] <;> rfl) | (simp [*, errW_none, errW_some] <;> rfl), by repeat (first | (with_reducible first | exact HB.out | apply below_alloc | apply pw_below_drewN | apply below_drew1) | exact HB.out)⟩
                 ·rw [if_neg c53] at H
                  exact absurd H (by simp)
                ·rw [if_neg c52] at H
                 exact absurd H (by simp)
               ·rw [if_neg c51] at H
                have c51b0 : decide (x22_3 < (t141.size : Int)) = false := decide_eq_false c51
                clear c51
                by_cases c60 : x22_3 ≥ (t141.size : Int)
                ·rw [if_pos c60] at H
                 have c60b0 : decide ((t141.size : Int) ≤ x22_3) = true := decide_eq_true c60
                 clear c60
                 by_cases c61 : 0 ≤ x22_3
                 ·rw [if_pos c61] at H
                  have c61b0 : decide (0 ≤ x22_3) = true := decide_eq_true c61
                  clear c61
                  by_cases c62 : x22_3 < (t143.size : Int)
                  ·rw [if_pos c62] at H
                   have c62b0 : decide (x22_3 < (t143.size : Int)) = true := decide_eq_true c62
                   clear c62
                   by_cases c64 : (bt t143 x22_3) = 0
                   ·rw [if_pos c64] at H
                    have c64b0 : ((bt t143 x22_3) == 0) = true := beq_iff_eq.mpr c64
                    have c64b1 : ((bt t143 x22_3) != 0) = false := bne_eq_false_iff_eq.mpr c64
                    clear c64
                    have H' := Aside0.mk H
                    clear H
                    have p63 : 0 ≤ (x22_3 : Int) := of_decide_eq_true (by first | (with_reducible assumption) | assumption)
                    have q63 : x22_3 < (t143.size : Int) := of_decide_eq_true (by first | (with_reducible assumption) | assumption)
                    have hx63 := bt_at t143 x22_3
                    replace p63 := eq_true p63
                    replace q63 := eq_true q63
                    go_wp2
                    repeat (go_quiet (fail); try go_wp2)
                    go_roundg kj39
                    case measure => have := HJ8.out; have := HJ23.out; have := HK3.out; have := HJ39.out; omega
                    case rel => exact ⟨(wrap64 (x22_3 + 1)), (by first | rfl | (simp; done) | (simp [*]; done)), H', ⟨by have := HJ8.out; have := HJ23.out; have := HK3.out; have := HJ39.out; omega⟩, ⟨by repeat (first | (with_reducible first | exact HB.out | apply below_alloc | apply pw_below_drewN | apply below_drew1) | exact HB.out)⟩⟩
                   ·rw [if_neg c64] at H
                    have c64b0 : ((bt t143 x22_3) == 0) = false := beq_eq_false_iff_ne.mpr c64
                    have c64b1 : ((bt t143 x22_3) != 0) = true := bne_iff_ne.mpr c64
                    obtain rfl := Option.some.inj H
                    have p63 : 0 ≤ (x22_3 : Int) := of_decide_eq_true (by first | (with_reducible assumption) | assumption)
                    have q63 : x22_3 < (t143.size : Int) := of_decide_eq_true (by first | (with_reducible assumption) | assumption)
                    have hx63 := bt_at t143 x22_3
                    replace p63 := eq_true p63
                    replace q63 := eq_true q63
                    go_wp2
                    repeat (go_quiet (fail); try go_wp2)
                    go_ret
                    exact ⟨by first | rfl | (simp [errW_none, errW_some] <;> rfl) | (simp [*, errW_none, errW_some] <;> rfl), by repeat (first | (with_reducible first | exact HB.out | apply below_alloc | apply pw_below_drewN | apply below_drew1) | exact HB.out)⟩
                  ·rw [if_neg c62] at H
                   exact absurd H (by simp)
                 ·rw [if_neg c61] at H
                  exact absurd H (by simp)
                ·rw [if_neg c60] at H
                 have c60b0 : decide ((t141.size : Int) ≤ x22_3) = false := decide_eq_false c60
                 clear c60
                 have H' := Aside0.mk H
                 clear H
                 go_wp2
                 repeat (go_quiet (fail); try go_wp2)
                 go_roundg kj39
                 case measure => have := HJ8.out; have := HJ23.out; have := HK3.out; have := HJ39.out; omega
                 case rel => exact ⟨(wrap64 (x22_3 + 1)), (by first | rfl | (simp; done) | (simp [*]; done)), H', ⟨by have := HJ8.out; have := HJ23.out; have := HK3.out; have := HJ39.out; omega⟩, ⟨by repeat (first | (with_reducible first | exact HB.out | apply below_alloc | apply pw_below_drewN | apply below_drew1) | exact HB.out)⟩⟩
           ·rw [if_neg c39] at H
            have c39b0 : decide (x22_3 < (t143.size : Int)) = false := decide_eq_false c39
            clear c39
            obtain rfl := Option.some.inj H
            go_wp2
            repeat (go_quiet (fail); try go_wp2)
            go_ret
            exact ⟨by first | rfl | (simp [errW_none, errW_some] <;> rfl) | (simp [*, errW_none, errW_some] <;> rfl), by repeat (first | (with_reducible first | exact HB.out | apply below_alloc | apply pw_below_drewN | apply below_drew1) | exact HB.out)⟩
     ·rw [if_neg c19] at H
      have c19b0 : (t133 == 0) = false := beq_eq_false_iff_ne.mpr c19
      have c19b1 : (t133 != 0) = true := bne_iff_ne.mpr c19
      by_cases c65 : (t131.length : Int) = 0
      ·rw [if_pos c65] at H
       have c65b0 : ((t131.length : Int) == 0) = true := beq_iff_eq.mpr c65
       have c65b1 : ((t131.length : Int) != 0) = false := bne_eq_false_iff_eq.mpr c65
       clear c65
       obtain rfl := Option.some.inj H
       go_wp2_with (first | (go_at_call 12; (with_reducible refine (coppicelaw13_own.calls _ _ l0 t128 _ ?side1 ?side2 A17.out).mono ?_); (case side1 => repeat (first | exact (Kd.C_below HR0.out HB.out) | (with_reducible refine Kd.C_alloc ?_ _) | (with_reducible refine Kd.C_drewN ?_ _) | (with_reducible refine Kd.C_drew ?_))); (case side2 => exact HC0.out); rintro e w66 ⟨v129, rfl, ho0, hb⟩; have n0_ := Aside0.mk (Kd.R_lower ho0 (below_size (by repeat (first | (with_reducible first | exact HB.out | apply below_alloc | apply pw_below_drewN | apply below_drew1) | exact HB.out)))); have n1_ := Aside0.mk (below_step (by repeat (first | (with_reducible first | exact HB.out | apply below_alloc | apply pw_below_drewN | apply below_drew1) | exact HB.out)) hb); clear HB; have HO130 := n0_; have HB := n1_; clear n0_ n1_; (try clear hb); (try clear hb2); (try clear hk); (try clear hi); (try clear ho0); obtain ⟨Ao67, co67, eo67⟩ := Kd.R_slice HO130.out; subst eo67) | (go_at_call 11; (with_reducible refine (sparse_Write.calls kj8 _ _ t128 a1 a2 a3 t131 t132 t133 _ ?side1 ?side2 A18.out).mono ?_); (case side1 => repeat (first | exact (Kd.R_reads' HO130.out).2.2 | (with_reducible refine Kd.C_alloc ?_ _) | (with_reducible refine Kd.C_drewN ?_ _) | (with_reducible refine Kd.C_drew ?_))); (case side2 => exact (Kd.R_reads' HO130.out).2.1); rintro e w68 ⟨v134, rfl, ho0, hb⟩; have n0_ := Aside0.mk (Kd.R_elder' (by (with_reducible repeat (first | apply Kd.R_alloc | apply Kd.R_drewN | apply Kd.R_drew)); exact HO130.out) (Kd.R_base ho0) hb); have n1_ := Aside0.mk (Kd.R_lower (Kd.R_new' ho0 (Kd.R_lt (by (with_reducible repeat (first | apply Kd.R_alloc | apply Kd.R_drewN | apply Kd.R_drew)); exact HO130.out))) (below_size (by repeat (first | (with_reducible first | exact HB.out | apply below_alloc | apply pw_below_drewN | apply below_drew1) | exact HB.out)))); have n2_ := Aside0.mk (below_step (by repeat (first | (with_reducible first | exact HB.out | apply below_alloc | apply pw_below_drewN | apply below_drew1) | exact HB.out)) hb); clear HO130; clear HB; have HO130 := n0_; have HO135 := n1_; have HB := n2_; clear n0_ n1_ n2_; (try clear hb); (try clear hb2); (try clear hk); (try clear hi); (try clear ho0); obtain ⟨Ao69, co69, eo69⟩ := Kd.R_slice HO135.out; subst eo69))
       repeat (go_quiet (first | (go_at_call 12; (fail_if_success (have := HO130)); (with_reducible refine (coppicelaw13_own.calls _ _ l0 t128 _ ?side1 ?side2 A17.out).mono ?_); (case side1 => repeat (first | exact (Kd.C_below HR0.out HB.out) | (with_reducible refine Kd.C_alloc ?_ _) | (with_reducible refine Kd.C_drewN ?_ _) | (with_reducible refine Kd.C_drew ?_))); (case side2 => exact HC0.out); rintro e w66 ⟨v129, rfl, ho0, hb⟩; have n0_ := Aside0.mk (Kd.R_lower ho0 (below_size (by repeat (first | (with_reducible first | exact HB.out | apply below_alloc | apply pw_below_drewN | apply below_drew1) | exact HB.out)))); have n1_ := Aside0.mk (below_step (by repeat (first | (with_reducible first | exact HB.out | apply below_alloc | apply pw_below_drewN | apply below_drew1) | exact HB.out)) hb); clear HB; have HO130 := n0_; have HB := n1_; clear n0_ n1_; (try clear hb); (try clear hb2); (try clear hk); (try clear hi); (try clear ho0); obtain ⟨Ao67, co67, eo67⟩ := Kd.R_slice HO130.out; subst eo67) | (go_at_call 11; (fail_if_success (have := HO135)); (with_reducible refine (sparse_Write.calls kj8 _ _ t128 a1 a2 a3 t131 t132 t133 _ ?side1 ?side2 A18.out).mono ?_); (case side1 => repeat (first | exact (Kd.R_reads' HO130.out).2.2 | (with_reducible refine Kd.C_alloc ?_ _) | (with_reducible refine Kd.C_drewN ?_ _) | (with_reducible refine Kd.C_drew ?_))); (case side2 => exact (Kd.R_reads' HO130.out).2.1); rintro e w68 ⟨v134, rfl, ho0, hb⟩; have n0_ := Aside0.mk (Kd.R_elder' (by (with_reducible repeat (first | apply Kd.R_alloc | apply Kd.R_drewN | apply Kd.R_drew)); exact HO130.out) (Kd.R_base ho0) hb); have n1_ := Aside0.mk (Kd.R_lower (Kd.R_new' ho0 (Kd.R_lt (by (with_reducible repeat (first | apply Kd.R_alloc | apply Kd.R_drewN | apply Kd.R_drew)); exact HO130.out))) (below_size (by repeat (first | (with_reducible first | exact HB.out | apply below_alloc | apply pw_below_drewN | apply below_drew1) | exact HB.out)))); have n2_ := Aside0.mk (below_step (by repeat (first | (with_reducible first | exact HB.out | apply below_alloc | apply pw_below_drewN | apply below_drew1) | exact HB.out)) hb); clear HO130; clear HB; have HO130 := n0_; have HO135 := n1_; have HB := n2_; clear n0_ n1_ n2_; (try clear hb); (try clear hb2); (try clear hk); (try clear hi); (try clear ho0); obtain ⟨Ao69, co69, eo69⟩ := Kd.R_slice HO135.out; subst eo69)); try go_wp2_with (first | (go_at_call 12; (with_reducible refine (coppicelaw13_own.calls _ _ l0 t128 _ ?side1 ?side2 A17.out).mono ?_); (case side1 => repeat (first | exact (Kd.C_below HR0.out HB.out) | (with_reducible refine Kd.C_alloc ?_ _) | (with_reducible refine Kd.C_drewN ?_ _) | (with_reducible refine Kd.C_drew ?_))); (case side2 => exact HC0.out); rintro e w66 ⟨v129, rfl, ho0, hb⟩; have n0_ := Aside0.mk (Kd.R_lower ho0 (below_size (by repeat (first | (with_reducible first | exact HB.out | apply below_alloc | apply pw_below_drewN | apply below_drew1) | exact HB.out)))); have n1_ := Aside0.mk (below_step (by repeat (first | (with_reducible first | exact HB.out | apply below_alloc | apply pw_below_drewN | apply below_drew1) | exact HB.out)) hb); clear HB; have HO130 := n0_; have HB := n1_; clear n0_ n1_; (try clear hb); (try clear hb2); (try clear hk); (try clear hi); (try clear ho0); obtain ⟨Ao67, co67, eo67⟩ := Kd.R_slice HO130.out; subst eo67) | (go_at_call 11; (with_reducible refine (sparse_Write.calls kj8 _ _ t128 a1 a2 a3 t131 t132 t133 _ ?side1 ?side2 A18.out).mono ?_); (case side1 => repeat (first | exact (Kd.R_reads' HO130.out).2.2 | (with_reducible refine Kd.C_alloc ?_ _) | (with_reducible refine Kd.C_drewN ?_ _) | (with_reducible refine Kd.C_drew ?_))); (case side2 => exact (Kd.R_reads' HO130.out).2.1); rintro e w68 ⟨v134, rfl, ho0, hb⟩; have n0_ := Aside0.mk (Kd.R_elder' (by (with_reducible repeat (first | apply Kd.R_alloc | apply Kd.R_drewN | apply Kd.R_drew)); exact HO130.out) (Kd.R_base ho0) hb); have n1_ := Aside0.mk (Kd.R_lower (Kd.R_new' ho0 (Kd.R_lt (by (with_reducible repeat (first | apply Kd.R_alloc | apply Kd.R_drewN | apply Kd.R_drew)); exact HO130.out))) (below_size (by repeat (first | (with_reducible first | exact HB.out | apply below_alloc | apply pw_below_drewN | apply below_drew1) | exact HB.out)))); have n2_ := Aside0.mk (below_step (by repeat (first | (with_reducible first | exact HB.out | apply below_alloc | apply pw_below_drewN | apply below_drew1) | exact HB.out)) hb); clear HO130; clear HB; have HO130 := n0_; have HO135 := n1_; have HB := n2_; clear n0_ n1_ n2_; (try clear hb); (try clear hb2); (try clear hk); (try clear hi); (try clear ho0); obtain ⟨Ao69, co69, eo69⟩ := Kd.R_slice HO135.out; subst eo69)))
       go_ret
       exact ⟨by first | rfl | (simp [errW_none, errW_some] <;> rfl) | (simp [*, errW_none, errW_some] <;> rfl), by repeat (first | (with_reducible first | exact HB.out | apply below_alloc | apply pw_below_drewN | apply below_drew1) | exact HB.out)⟩
      ·rw [if_neg c65] at H
       have c65b0 : ((t131.length : Int) == 0) = false := beq_eq_false_iff_ne.mpr c65
       have c65b1 : ((t131.length : Int) != 0) = true := bne_iff_ne.mpr c65
       have c65b2 : ¬ (t131 = []) := fun h_ => c65 (by rw [h_]; rfl)
       obtain rfl := Option.some.inj H
       go_wp2_with (first | (go_at_call 12; (with_reducible refine (coppicelaw13_own.calls _ _ l0 t128 _ ?side1 ?side2 A17.out).mono ?_); (case side1 => repeat (first | exact (Kd.C_below HR0.out HB.out) | (with_reducible refine Kd.C_alloc ?_ _) | (with_reducible refine Kd.C_drewN ?_ _) | (with_reducible refine Kd.C_drew ?_))); (case side2 => exact HC0.out); rintro e w70 ⟨v129, rfl, ho0, hb⟩; have n0_ := Aside0.mk (Kd.R_lower ho0 (below_size (by repeat (first | (with_reducible first | exact HB.out | apply below_alloc | apply pw_below_drewN | apply below_drew1) | exact HB.out)))); have n1_ := Aside0.mk (below_step (by repeat (first | (with_reducible first | exact HB.out | apply below_alloc | apply pw_below_drewN | apply below_drew1) | exact HB.out)) hb); clear HB; have HO130 := n0_; have HB := n1_; clear n0_ n1_; (try clear hb); (try clear hb2); (try clear hk); (try clear hi); (try clear ho0); obtain ⟨Ao71, co71, eo71⟩ := Kd.R_slice HO130.out; subst eo71) | (go_at_call 11; (with_reducible refine (sparse_Write.calls kj8 _ _ t128 a1 a2 a3 t131 t132 t133 _ ?side1 ?side2 A18.out).mono ?_); (case side1 => repeat (first | exact (Kd.R_reads' HO130.out).2.2 | (with_reducible refine Kd.C_alloc ?_ _) | (with_reducible refine Kd.C_drewN ?_ _) | (with_reducible refine Kd.C_drew ?_))); (case side2 => exact (Kd.R_reads' HO130.out).2.1); rintro e w72 ⟨v134, rfl, ho0, hb⟩; have n0_ := Aside0.mk (Kd.R_elder' (by (with_reducible repeat (first | apply Kd.R_alloc | apply Kd.R_drewN | apply Kd.R_drew)); exact HO130.out) (Kd.R_base ho0) hb); have n1_ := Aside0.mk (Kd.R_lower (Kd.R_new' ho0 (Kd.R_lt (by (with_reducible repeat (first | apply Kd.R_alloc | apply Kd.R_drewN | apply Kd.R_drew)); exact HO130.out))) (below_size (by repeat (first | (with_reducible first | exact HB.out | apply below_alloc | apply pw_below_drewN | apply below_drew1) | exact HB.out)))); have n2_ := Aside0.mk (below_step (by repeat (first | (with_reducible first | exact HB.out | apply below_alloc | apply pw_below_drewN | apply below_drew1) | exact HB.out)) hb); clear HO130; clear HB; have HO130 := n0_; have HO135 := n1_; have HB := n2_; clear n0_ n1_ n2_; (try clear hb); (try clear hb2); (try clear hk); (try clear hi); (try clear ho0); obtain ⟨Ao73, co73, eo73⟩ := Kd.R_slice HO135.out; subst eo73))
       repeat (go_quiet (first | (go_at_call 12; (fail_if_success (have := HO130)); (with_reducible refine (coppicelaw13_own.calls _ _ l0 t128 _ ?side1 ?side2 A17.out).mono ?_); (case side1 => repeat (first | exact (Kd.C_below HR0.out HB.out) | (with_reducible refine Kd.C_alloc ?_ _) | (with_reducible refine Kd.C_drewN ?_ _) | (with_reducible refine Kd.C_drew ?_))); (case side2 => exact HC0.out); rintro e w70 ⟨v129, rfl, ho0, hb⟩; have n0_ := Aside0.mk (Kd.R_lower ho0 (below_size (by repeat (first | (with_reducible first | exact HB.out | apply below_alloc | apply pw_below_drewN | apply below_drew1) | exact HB.out)))); have n1_ := Aside0.mk (below_step (by repeat (first | (with_reducible first | exact HB.out | apply below_alloc | apply pw_below_drewN | apply below_drew1) | exact HB.out)) hb); clear HB; have HO130 := n0_; have HB := n1_; clear n0_ n1_; (try clear hb); (try clear hb2); (try clear hk); (try clear hi); (try clear ho0); obtain ⟨Ao71, co71, eo71⟩ := Kd.R_slice HO130.out; subst eo71) | (go_at_call 11; (fail_if_success (have := HO135)); (with_reducible refine (sparse_Write.calls kj8 _ _ t128 a1 a2 a3 t131 t132 t133 _ ?side1 ?side2 A18.out).mono ?_); (case side1 => repeat (first | exact (Kd.R_reads' HO130.out).2.2 | (with_reducible refine Kd.C_alloc ?_ _) | (with_reducible refine Kd.C_drewN ?_ _) | (with_reducible refine Kd.C_drew ?_))); (case side2 => exact (Kd.R_reads' HO130.out).2.1); rintro e w72 ⟨v134, rfl, ho0, hb⟩; have n0_ := Aside0.mk (Kd.R_elder' (by (with_reducible repeat (first | apply Kd.R_alloc | apply Kd.R_drewN | apply Kd.R_drew)); exact HO130.out) (Kd.R_base ho0) hb); have n1_ := Aside0.mk (Kd.R_lower (Kd.R_new' ho0 (Kd.R_lt (by (with_reducible repeat (first | apply Kd.R_alloc | apply Kd.R_drewN | apply Kd.R_drew)); exact HO130.out))) (below_size (by repeat (first | (with_reducible first | exact HB.out | apply below_alloc | apply pw_below_drewN | apply below_drew1) | exact HB.out)))); have n2_ := Aside0.mk (below_step (by repeat (first | (with_reducible first | exact HB.out | apply below_alloc | apply pw_below_drewN | apply below_drew1) | exact HB.out)) hb); clear HO130; clear HB; have HO130 := n0_; have HO135 := n1_; have HB := n2_; clear n0_ n1_ n2_; (try clear hb); (try clear hb2); (try clear hk); (try clear hi); (try clear ho0); obtain ⟨Ao73, co73, eo73⟩ := Kd.R_slice HO135.out; subst eo73)); try go_wp2_with (first | (go_at_call 12; (with_reducible refine (coppicelaw13_own.calls _ _ l0 t128 _ ?side1 ?side2 A17.out).mono ?_); (case side1 => repeat (first | exact (Kd.C_below HR0.out HB.out) | (with_reducible refine Kd.C_alloc ?_ _) | (with_reducible refine Kd.C_drewN ?_ _) | (with_reducible refine Kd.C_drew ?_))); (case side2 => exact HC0.out); rintro e w70 ⟨v129, rfl, ho0, hb⟩; have n0_ := Aside0.mk (Kd.R_lower ho0 (below_size (by repeat (first | (with_reducible first | exact HB.out | apply below_alloc | apply pw_below_drewN | apply below_drew1) | exact HB.out)))); have n1_ := Aside0.mk (below_step (by repeat (first | (with_reducible first | exact HB.out | apply below_alloc | apply pw_below_drewN | apply below_drew1) | exact HB.out)) hb); clear HB; have HO130 := n0_; have HB := n1_; clear n0_ n1_; (try clear hb); (try clear hb2); (try clear hk); (try clear hi); (try clear ho0); obtain ⟨Ao71, co71, eo71⟩ := Kd.R_slice HO130.out; subst eo71) | (go_at_call 11; (with_reducible refine (sparse_Write.calls kj8 _ _ t128 a1 a2 a3 t131 t132 t133 _ ?side1 ?side2 A18.out).mono ?_); (case side1 => repeat (first | exact (Kd.R_reads' HO130.out).2.2 | (with_reducible refine Kd.C_alloc ?_ _) | (with_reducible refine Kd.C_drewN ?_ _) | (with_reducible refine Kd.C_drew ?_))); (case side2 => exact (Kd.R_reads' HO130.out).2.1); rintro e w72 ⟨v134, rfl, ho0, hb⟩; have n0_ := Aside0.mk (Kd.R_elder' (by (with_reducible repeat (first | apply Kd.R_alloc | apply Kd.R_drewN | apply Kd.R_drew)); exact HO130.out) (Kd.R_base ho0) hb); have n1_ := Aside0.mk (Kd.R_lower (Kd.R_new' ho0 (Kd.R_lt (by (with_reducible repeat (first | apply Kd.R_alloc | apply Kd.R_drewN | apply Kd.R_drew)); exact HO130.out))) (below_size (by repeat (first | (with_reducible first | exact HB.out | apply below_alloc | apply pw_below_drewN | apply below_drew1) | exact HB.out)))); have n2_ := Aside0.mk (below_step (by repeat (first | (with_reducible first | exact HB.out | apply below_alloc | apply pw_below_drewN | apply below_drew1) | exact HB.out)) hb); clear HO130; clear HB; have HO130 := n0_; have HO135 := n1_; have HB := n2_; clear n0_ n1_ n2_; (try clear hb); (try clear hb2); (try clear hk); (try clear hi); (try clear ho0); obtain ⟨Ao73, co73, eo73⟩ := Kd.R_slice HO135.out; subst eo73)))
       go_ret
       exact ⟨by first | rfl | (simp [errW_none, errW_some] <;> rfl) | (simp [*, errW_none, errW_some] <;> rfl), by repeat (first | (with_reducible first | exact HB.out | apply below_alloc | apply pw_below_drewN | apply below_drew1) | exact HB.out)⟩
 ·replace c8 := Bool.eq_false_iff.mpr c8
  subst c8
  have H1 : (some false) = some r := by rw [if_neg (show ¬ (false = true) by decide)] at H; exact H
  clear H
  have H := H1
  clear H1
  obtain rfl := Option.some.inj H
  go_enter Tryd.func3, Tryd.ntmps3
  go_wp2_with (first | (go_at_call 9; (with_reducible refine (coppicelaw13_awake.calls k  false _ A7.out).mono ?_); rintro e w74 ⟨rfl, hb⟩; have n0_ := Aside0.mk (below_step (by repeat (first | (with_reducible first | exact HB.out | apply below_alloc | apply pw_below_drewN | apply below_drew1) | exact HB.out)) hb); clear HB; have HB := n0_; clear n0_; (try clear hb); (try clear hb2); (try clear hk); (try clear hi)))
  repeat (go_quiet (first | (go_at_call 9; (with_reducible refine (coppicelaw13_awake.calls k  false _ A7.out).mono ?_); rintro e w74 ⟨rfl, hb⟩; have n0_ := Aside0.mk (below_step (by repeat (first | (with_reducible first | exact HB.out | apply below_alloc | apply pw_below_drewN | apply below_drew1) | exact HB.out)) hb); clear HB; have HB := n0_; clear n0_; (try clear hb); (try clear hb2); (try clear hk); (try clear hi))); try go_wp2_with (first | (go_at_call 9; (with_reducible refine (coppicelaw13_awake.calls k  false _ A7.out).mono ?_); rintro e w74 ⟨rfl, hb⟩; have n0_ := Aside0.mk (below_step (by repeat (first | (with_reducible first | exact HB.out | apply below_alloc | apply pw_below_drewN | apply below_drew1) | exact HB.out)) hb); clear HB; have HB := n0_; clear n0_; (try clear hb); (try clear hb2); (try clear hk); (try clear hi))))
  go_ret
  exact ⟨by first | rfl | (simp [errW_none, errW_some] <;> rfl) | (simp [*, errW_none, errW_some] <;> rfl), by repeat (first | (with_reducible first | exact HB.out | apply below_alloc | apply pw_below_drewN | apply below_drew1) | exact HB.out)⟩

/-- The bounds of a value of struct type 39. -/
def wf39 (x : S39) : Prop := (Lit.int .i64 x.f0).wf = true ∧ x.f1.size ≤ maxLen
/-- THE ONE PURE STATEMENT of coppicelaw13_SparseWrites. -/
def coppicelaw13_SparseWrites.Pure : Prop := ∀ (x0 : List (S39)) (x1 : Int) (x2 : Int) (x3 : ByteArray) (x4 : Int) (x5 : Int), (x0.length ≤ maxLen ∧ ∀ y0 ∈ x0, wf39 y0) → (Lit.int .i64 x1).wf = true → (Lit.int .i64 x2).wf = true → x3.size ≤ 140737488351232 → (Lit.int .i64 x4).wf = true → (Lit.int .i64 x5).wf = true → ∃ k, coppicelaw13_SparseWrites.f k x0 x1 x2 x3 x4 x5 = some true

end Go.Proofs.YtgnffienfjigiaaDoor.PA
