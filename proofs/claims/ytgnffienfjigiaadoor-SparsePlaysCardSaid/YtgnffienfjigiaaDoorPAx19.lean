-- WRITTEN BY a program of this session (pp.sh)
import Derived.Test.YtgnffienfjigiaaDoorPAx0
import Derived.Test.YtgnffienfjigiaaDoorPAx3
import Derived.Test.YtgnffienfjigiaaDoorPAx6
import Derived.Test.YtgnffienfjigiaaDoorPAx7
import Derived.Test.YtgnffienfjigiaaDoorPAx8
import Derived.Test.YtgnffienfjigiaaDoorPAx9
import Derived.Test.YtgnffienfjigiaaDoorPAx10
import Derived.Test.YtgnffienfjigiaaDoorPAx11
import Derived.Test.YtgnffienfjigiaaDoorPAx15
import Derived.Test.YtgnffienfjigiaaDoorPAx16
import Derived.Test.YtgnffienfjigiaaDoorPAx17
import Derived.Test.YtgnffienfjigiaaDoorPAx18
namespace Go.Proofs.YtgnffienfjigiaaDoor.PA
open Go.RowKit Go.Proofs.YtgnffienfjigiaaDoorW.PrintWords Go.Proofs.YtgnffienfjigiaaDoorW.PrintLast Go.Proofs.YtgnffienfjigiaaDoorW.PrintMore Go.Proofs.YtgnffienfjigiaaDoor.Plain
attribute [local go_sem] max2_int min2_int max_two min_two max_three min_three max_four min_four binOp_leq_s binOp_gtr_s binOp_geq_s lit_byte   -- for this text's walks alone
set_option linter.unusedVariables false
set_option linter.unusedSimpArgs false

/-! ### coppicelaw13_SparsePlays: function 6 -/
mutual
def coppicelaw13_SparsePlays.l0 : Nat → List (S42) → List (S39) → List (S39) → Int → Int → Option (Bool)
 | 0, _, _, _, _, _ => none
 | k + 1, x0, x3, x4, x5, x6 => if x6 < (x0.length : Int) then (if 0 ≤ x6 then (if (((rd_T42 x0 x6).f3).size : Int) > 300 then (some true) else (if ((rd_T42 x0 x6).f0) = 0 then ((sparse_Write.f k x3 x5 ((rd_T42 x0 x6).f1) ((rd_T42 x0 x6).f3)).bind fun bt203 => ((coppiceref13_Write.f k x4 x5 ((rd_T42 x0 x6).f1) ((rd_T42 x0 x6).f3)).bind fun bt208 => (if bt203.2.2 = bt208.2.2 then (coppicelaw13_SparsePlays.j1 k x0 x3 x4 x5 x6 bt203.1 bt203.2.1 bt203.2.2 bt208.1 (bt203.2.1 != bt208.2.1)) else (coppicelaw13_SparsePlays.j1 k x0 x3 x4 x5 x6 bt203.1 bt203.2.1 bt203.2.2 bt208.1 true)))) else (if ((rd_T42 x0 x6).f0) = 1 then ((sparse_Truncate.f k x3 x5 ((rd_T42 x0 x6).f2)).bind fun bt213 => ((coppiceref13_Truncate.f k x4 x5 ((rd_T42 x0 x6).f2)).bind fun bt218 => (if bt213.2.2 = bt218.2.2 then (coppicelaw13_SparsePlays.j2 k x0 x3 x4 x5 x6 bt213.1 bt213.2.1 bt213.2.2 bt218.1 (bt213.2.1 != bt218.2.1)) else (coppicelaw13_SparsePlays.j2 k x0 x3 x4 x5 x6 bt213.1 bt213.2.1 bt213.2.2 bt218.1 true)))) else (if ((rd_T42 x0 x6).f0) = 2 then ((sparse_Punch.f k x3 x5 ((rd_T42 x0 x6).f1) ((rd_T42 x0 x6).f2)).bind fun bt223 => ((coppiceref13_Punch.f k x4 x5 ((rd_T42 x0 x6).f1) ((rd_T42 x0 x6).f2)).bind fun bt227 => (if bt223.2 = bt227.2 then (if bt223.2 = 0 then (coppicelaw13_SparsePlays.j3 k x0 bt223.1 bt227.1 x5 x6) else (coppicelaw13_SparsePlays.j3 k x0 x3 x4 x5 x6)) else (some false)))) else ((sparse_Read.f k x3 x5 ((rd_T42 x0 x6).f1) ((rd_T42 x0 x6).f2)).bind fun bt231 => ((coppiceref13_Read.f k x4 x5 ((rd_T42 x0 x6).f1) ((rd_T42 x0 x6).f2)).bind fun bt233 => (if bt231.1.toList = bt233.1.toList then (if bt231.2 = bt233.2 then (coppicelaw13_SparsePlays.j3 k x0 x3 x4 x5 x6) else (some false)) else (some false)))))))) else (none)) else (some true)
def coppicelaw13_SparsePlays.j3 : Nat → List (S42) → List (S39) → List (S39) → Int → Int → Option (Bool)
 | 0, _, _, _, _, _ => none
 | k + 1, x0, x3, x4, x5, x6 => (coppiceref13_Same.f k x3 x4).bind fun t235 => (if t235 = true then ((sparse_Check.f k x3 x5).bind fun t236 => (if t236 = 0 then (coppicelaw13_SparsePlays.l0 k x0 x3 x4 x5 (wrap64 (x6 + 1))) else (some false))) else (some false))
def coppicelaw13_SparsePlays.j1 : Nat → List (S42) → List (S39) → List (S39) → Int → Int → List (S39) → Int → Int → List (S39) → Bool → Option (Bool)
 | 0, _, _, _, _, _, _, _, _, _, _ => none
 | k + 1, x0, x3, x4, x5, x6, x8, x9, x10, x11, x108 => if x108 = true then (some false) else (if x10 = 0 then (coppicelaw13_SparsePlays.j3 k x0 x8 x11 x9 x6) else (coppicelaw13_SparsePlays.j3 k x0 x3 x4 x5 x6))
def coppicelaw13_SparsePlays.j2 : Nat → List (S42) → List (S39) → List (S39) → Int → Int → List (S39) → Int → Int → List (S39) → Bool → Option (Bool)
 | 0, _, _, _, _, _, _, _, _, _, _ => none
 | k + 1, x0, x3, x4, x5, x6, x14, x15, x16, x17, x141 => if x141 = true then (some false) else (if x16 = 0 then (coppicelaw13_SparsePlays.j3 k x0 x14 x17 x15 x6) else (coppicelaw13_SparsePlays.j3 k x0 x3 x4 x5 x6))
end
def coppicelaw13_SparsePlays.f (k : Nat) (l0 : List (S42)) : Option (Bool) := (coppicelaw13_awake.f k).bind fun t200 => (if t200 = true then (if (l0.length : Int) > 60 then (some true) else (coppicelaw13_SparsePlays.l0 k l0 ([] : List (S39)) ([] : List (S39)) 0 0)) else (some false))
theorem coppicelaw13_SparsePlays.mono_l : ∀ k, (∀ y0 y1 y2 y3 y4, LeO (coppicelaw13_SparsePlays.l0 k y0 y1 y2 y3 y4) (coppicelaw13_SparsePlays.l0 (k + 1) y0 y1 y2 y3 y4)) ∧ (∀ y0 y1 y2 y3 y4, LeO (coppicelaw13_SparsePlays.j3 k y0 y1 y2 y3 y4) (coppicelaw13_SparsePlays.j3 (k + 1) y0 y1 y2 y3 y4)) ∧ (∀ y0 y1 y2 y3 y4 y5 y6 y7 y8 y9, LeO (coppicelaw13_SparsePlays.j1 k y0 y1 y2 y3 y4 y5 y6 y7 y8 y9) (coppicelaw13_SparsePlays.j1 (k + 1) y0 y1 y2 y3 y4 y5 y6 y7 y8 y9)) ∧ (∀ y0 y1 y2 y3 y4 y5 y6 y7 y8 y9, LeO (coppicelaw13_SparsePlays.j2 k y0 y1 y2 y3 y4 y5 y6 y7 y8 y9) (coppicelaw13_SparsePlays.j2 (k + 1) y0 y1 y2 y3 y4 y5 y6 y7 y8 y9))
 | 0 => ⟨fun _ _ _ _ _ r h => by simp [coppicelaw13_SparsePlays.l0] at h, fun _ _ _ _ _ r h => by simp [coppicelaw13_SparsePlays.j3] at h, fun _ _ _ _ _ _ _ _ _ _ r h => by simp [coppicelaw13_SparsePlays.j1] at h, fun _ _ _ _ _ _ _ _ _ _ r h => by simp [coppicelaw13_SparsePlays.j2] at h⟩
 | k + 1 => by
  obtain ⟨ih0, ih1, ih2, ih3⟩ := coppicelaw13_SparsePlays.mono_l k
  refine ⟨?_, ?_, ?_, ?_⟩
  ·intro y0 y1 y2 y3 y4
   unfold coppicelaw13_SparsePlays.l0
   repeat' first
   | (with_reducible exact ih0 _ _ _ _ _)
   | (with_reducible exact ih1 _ _ _ _ _)
   | (with_reducible exact ih2 _ _ _ _ _ _ _ _ _ _)
   | (with_reducible exact ih3 _ _ _ _ _ _ _ _ _ _)
   | (with_reducible exact coppicelaw13_awake.mono _)
   | (with_reducible exact coppiceref13_Punch.mono _ _ _ _ _)
   | (with_reducible exact coppiceref13_Read.mono _ _ _ _ _)
   | (with_reducible exact coppiceref13_Same.mono _ _ _)
   | (with_reducible exact coppiceref13_Truncate.mono _ _ _ _)
   | (with_reducible exact coppiceref13_Write.mono _ _ _ _ _)
   | (with_reducible exact sparse_Check.mono _ _ _)
   | (with_reducible exact sparse_Punch.mono _ _ _ _ _)
   | (with_reducible exact sparse_Read.mono _ _ _ _ _)
   | (with_reducible exact sparse_Truncate.mono _ _ _ _)
   | (with_reducible exact sparse_Write.mono _ _ _ _ _)
   | (with_reducible exact LeO.refl _)
   | (with_reducible exact LeO.none _)
   | (with_reducible refine LeO.ite ?_ ?_)
   | (with_reducible refine LeO.bind ?_ (fun _ => ?_))
   | exact ih0 _ _ _ _ _
   | exact ih1 _ _ _ _ _
   | exact ih2 _ _ _ _ _ _ _ _ _ _
   | exact ih3 _ _ _ _ _ _ _ _ _ _
   | exact coppicelaw13_awake.mono _
   | exact coppiceref13_Punch.mono _ _ _ _ _
   | exact coppiceref13_Read.mono _ _ _ _ _
   | exact coppiceref13_Same.mono _ _ _
   | exact coppiceref13_Truncate.mono _ _ _ _
   | exact coppiceref13_Write.mono _ _ _ _ _
   | exact sparse_Check.mono _ _ _
   | exact sparse_Punch.mono _ _ _ _ _
   | exact sparse_Read.mono _ _ _ _ _
   | exact sparse_Truncate.mono _ _ _ _
   | exact sparse_Write.mono _ _ _ _ _
   | exact LeO.none _
   | refine LeO.ite ?_ ?_
   | refine LeO.bind ?_ (fun _ => ?_)
  ·intro y0 y1 y2 y3 y4
   unfold coppicelaw13_SparsePlays.j3
   repeat' first
   | (with_reducible exact ih0 _ _ _ _ _)
   | (with_reducible exact ih1 _ _ _ _ _)
   | (with_reducible exact ih2 _ _ _ _ _ _ _ _ _ _)
   | (with_reducible exact ih3 _ _ _ _ _ _ _ _ _ _)
   | (with_reducible exact coppicelaw13_awake.mono _)
   | (with_reducible exact coppiceref13_Punch.mono _ _ _ _ _)
   | (with_reducible exact coppiceref13_Read.mono _ _ _ _ _)
   | (with_reducible exact coppiceref13_Same.mono _ _ _)
   | (with_reducible exact coppiceref13_Truncate.mono _ _ _ _)
   | (with_reducible exact coppiceref13_Write.mono _ _ _ _ _)
   | (with_reducible exact sparse_Check.mono _ _ _)
   | (with_reducible exact sparse_Punch.mono _ _ _ _ _)
   | (with_reducible exact sparse_Read.mono _ _ _ _ _)
   | (with_reducible exact sparse_Truncate.mono _ _ _ _)
   | (with_reducible exact sparse_Write.mono _ _ _ _ _)
   | (with_reducible exact LeO.refl _)
   | (with_reducible exact LeO.none _)
   | (with_reducible refine LeO.ite ?_ ?_)
   | (with_reducible refine LeO.bind ?_ (fun _ => ?_))
   | exact ih0 _ _ _ _ _
   | exact ih1 _ _ _ _ _
   | exact ih2 _ _ _ _ _ _ _ _ _ _
   | exact ih3 _ _ _ _ _ _ _ _ _ _
   | exact coppicelaw13_awake.mono _
   | exact coppiceref13_Punch.mono _ _ _ _ _
   | exact coppiceref13_Read.mono _ _ _ _ _
   | exact coppiceref13_Same.mono _ _ _
   | exact coppiceref13_Truncate.mono _ _ _ _
   | exact coppiceref13_Write.mono _ _ _ _ _
   | exact sparse_Check.mono _ _ _
   | exact sparse_Punch.mono _ _ _ _ _
   | exact sparse_Read.mono _ _ _ _ _
   | exact sparse_Truncate.mono _ _ _ _
   | exact sparse_Write.mono _ _ _ _ _
   | exact LeO.none _
   | refine LeO.ite ?_ ?_
   | refine LeO.bind ?_ (fun _ => ?_)
  ·intro y0 y1 y2 y3 y4 y5 y6 y7 y8 y9
   unfold coppicelaw13_SparsePlays.j1
   repeat' first
   | (with_reducible exact ih0 _ _ _ _ _)
   | (with_reducible exact ih1 _ _ _ _ _)
   | (with_reducible exact ih2 _ _ _ _ _ _ _ _ _ _)
   | (with_reducible exact ih3 _ _ _ _ _ _ _ _ _ _)
   | (with_reducible exact coppicelaw13_awake.mono _)
   | (with_reducible exact coppiceref13_Punch.mono _ _ _ _ _)
   | (with_reducible exact coppiceref13_Read.mono _ _ _ _ _)
   | (with_reducible exact coppiceref13_Same.mono _ _ _)
   | (with_reducible exact coppiceref13_Truncate.mono _ _ _ _)
   | (with_reducible exact coppiceref13_Write.mono _ _ _ _ _)
   | (with_reducible exact sparse_Check.mono _ _ _)
   | (with_reducible exact sparse_Punch.mono _ _ _ _ _)
   | (with_reducible exact sparse_Read.mono _ _ _ _ _)
   | (with_reducible exact sparse_Truncate.mono _ _ _ _)
   | (with_reducible exact sparse_Write.mono _ _ _ _ _)
   | (with_reducible exact LeO.refl _)
   | (with_reducible exact LeO.none _)
   | (with_reducible refine LeO.ite ?_ ?_)
   | (with_reducible refine LeO.bind ?_ (fun _ => ?_))
   | exact ih0 _ _ _ _ _
   | exact ih1 _ _ _ _ _
   | exact ih2 _ _ _ _ _ _ _ _ _ _
   | exact ih3 _ _ _ _ _ _ _ _ _ _
   | exact coppicelaw13_awake.mono _
   | exact coppiceref13_Punch.mono _ _ _ _ _
   | exact coppiceref13_Read.mono _ _ _ _ _
   | exact coppiceref13_Same.mono _ _ _
   | exact coppiceref13_Truncate.mono _ _ _ _
   | exact coppiceref13_Write.mono _ _ _ _ _
   | exact sparse_Check.mono _ _ _
   | exact sparse_Punch.mono _ _ _ _ _
   | exact sparse_Read.mono _ _ _ _ _
   | exact sparse_Truncate.mono _ _ _ _
   | exact sparse_Write.mono _ _ _ _ _
   | exact LeO.none _
   | refine LeO.ite ?_ ?_
   | refine LeO.bind ?_ (fun _ => ?_)
  ·intro y0 y1 y2 y3 y4 y5 y6 y7 y8 y9
   unfold coppicelaw13_SparsePlays.j2
   repeat' first
   | (with_reducible exact ih0 _ _ _ _ _)
   | (with_reducible exact ih1 _ _ _ _ _)
   | (with_reducible exact ih2 _ _ _ _ _ _ _ _ _ _)
   | (with_reducible exact ih3 _ _ _ _ _ _ _ _ _ _)
   | (with_reducible exact coppicelaw13_awake.mono _)
   | (with_reducible exact coppiceref13_Punch.mono _ _ _ _ _)
   | (with_reducible exact coppiceref13_Read.mono _ _ _ _ _)
   | (with_reducible exact coppiceref13_Same.mono _ _ _)
   | (with_reducible exact coppiceref13_Truncate.mono _ _ _ _)
   | (with_reducible exact coppiceref13_Write.mono _ _ _ _ _)
   | (with_reducible exact sparse_Check.mono _ _ _)
   | (with_reducible exact sparse_Punch.mono _ _ _ _ _)
   | (with_reducible exact sparse_Read.mono _ _ _ _ _)
   | (with_reducible exact sparse_Truncate.mono _ _ _ _)
   | (with_reducible exact sparse_Write.mono _ _ _ _ _)
   | (with_reducible exact LeO.refl _)
   | (with_reducible exact LeO.none _)
   | (with_reducible refine LeO.ite ?_ ?_)
   | (with_reducible refine LeO.bind ?_ (fun _ => ?_))
   | exact ih0 _ _ _ _ _
   | exact ih1 _ _ _ _ _
   | exact ih2 _ _ _ _ _ _ _ _ _ _
   | exact ih3 _ _ _ _ _ _ _ _ _ _
   | exact coppicelaw13_awake.mono _
   | exact coppiceref13_Punch.mono _ _ _ _ _
   | exact coppiceref13_Read.mono _ _ _ _ _
   | exact coppiceref13_Same.mono _ _ _
   | exact coppiceref13_Truncate.mono _ _ _ _
   | exact coppiceref13_Write.mono _ _ _ _ _
   | exact sparse_Check.mono _ _ _
   | exact sparse_Punch.mono _ _ _ _ _
   | exact sparse_Read.mono _ _ _ _ _
   | exact sparse_Truncate.mono _ _ _ _
   | exact sparse_Write.mono _ _ _ _ _
   | exact LeO.none _
   | refine LeO.ite ?_ ?_
   | refine LeO.bind ?_ (fun _ => ?_)
theorem coppicelaw13_SparsePlays.mono : ∀ a0 k, LeO (coppicelaw13_SparsePlays.f k a0) (coppicelaw13_SparsePlays.f (k + 1) a0) := by
 intro a0 k
 obtain ⟨ih0, ih1, ih2, ih3⟩ := coppicelaw13_SparsePlays.mono_l k
 unfold coppicelaw13_SparsePlays.f
 repeat' first
   | (with_reducible exact ih0 _ _ _ _ _)
   | (with_reducible exact ih1 _ _ _ _ _)
   | (with_reducible exact ih2 _ _ _ _ _ _ _ _ _ _)
   | (with_reducible exact ih3 _ _ _ _ _ _ _ _ _ _)
   | (with_reducible exact coppicelaw13_awake.mono _)
   | (with_reducible exact coppiceref13_Punch.mono _ _ _ _ _)
   | (with_reducible exact coppiceref13_Read.mono _ _ _ _ _)
   | (with_reducible exact coppiceref13_Same.mono _ _ _)
   | (with_reducible exact coppiceref13_Truncate.mono _ _ _ _)
   | (with_reducible exact coppiceref13_Write.mono _ _ _ _ _)
   | (with_reducible exact sparse_Check.mono _ _ _)
   | (with_reducible exact sparse_Punch.mono _ _ _ _ _)
   | (with_reducible exact sparse_Read.mono _ _ _ _ _)
   | (with_reducible exact sparse_Truncate.mono _ _ _ _)
   | (with_reducible exact sparse_Write.mono _ _ _ _ _)
   | (with_reducible exact LeO.refl _)
   | (with_reducible exact LeO.none _)
   | (with_reducible refine LeO.ite ?_ ?_)
   | (with_reducible refine LeO.bind ?_ (fun _ => ?_))
   | exact ih0 _ _ _ _ _
   | exact ih1 _ _ _ _ _
   | exact ih2 _ _ _ _ _ _ _ _ _ _
   | exact ih3 _ _ _ _ _ _ _ _ _ _
   | exact coppicelaw13_awake.mono _
   | exact coppiceref13_Punch.mono _ _ _ _ _
   | exact coppiceref13_Read.mono _ _ _ _ _
   | exact coppiceref13_Same.mono _ _ _
   | exact coppiceref13_Truncate.mono _ _ _ _
   | exact coppiceref13_Write.mono _ _ _ _ _
   | exact sparse_Check.mono _ _ _
   | exact sparse_Punch.mono _ _ _ _ _
   | exact sparse_Read.mono _ _ _ _ _
   | exact sparse_Truncate.mono _ _ _ _
   | exact sparse_Write.mono _ _ _ _ _
   | exact LeO.none _
   | refine LeO.ite ?_ ?_
   | refine LeO.bind ?_ (fun _ => ?_)
set_option maxHeartbeats 8000000 in
set_option maxRecDepth 100000 in
theorem coppicelaw13_SparsePlays.calls (k : Nat) (A0 : Option Addr) (c0 : Nat) (l0 : List (S42)) (r : Bool) (w : World) (hr0 : Kd.C k42 w A0 l0.length l0) (hc0 : l0.length ≤ c0) (h : coppicelaw13_SparsePlays.f k l0 = some r) :
  Calls Tryd.prog 6 #[.slice A0 l0.length c0] w fun e w' => e = .returned (.bool r) ∧ Below w.heap.size w w' := by
 have hu42 := Tryd.underlying42
 have HR0 := Aside0.mk hr0
 have HC0 := Aside0.mk hc0
 clear hr0 hc0
 have HB := Aside0.mk (Below.refl w.heap.size w)
 have H : ((coppicelaw13_awake.f k).bind fun t200 => (if t200 = true then (if (l0.length : Int) > 60 then (some true) else (coppicelaw13_SparsePlays.l0 k l0 ([] : List (S39)) ([] : List (S39)) 0 0)) else (some false))) = some r := h
 clear h
 replace H := Option.bind_eq_some_iff.mp H
 obtain ⟨t200, A20, H⟩ := H
 replace H : (if t200 = true then (if (l0.length : Int) > 60 then (some true) else (coppicelaw13_SparsePlays.l0 k l0 ([] : List (S39)) ([] : List (S39)) 0 0)) else (some false)) = some r := H
 have A2 := Aside0.mk A20
 clear A20
 by_cases c3 : t200 = true
 ·subst c3
  have H1 : (if (l0.length : Int) > 60 then (some true) else (coppicelaw13_SparsePlays.l0 k l0 ([] : List (S39)) ([] : List (S39)) 0 0)) = some r := by rw [if_pos rfl] at H; exact H
  clear H
  have H := H1
  clear H1
  by_cases c4 : (l0.length : Int) > 60
  ·rw [if_pos c4] at H
   have c4b0 : decide (60 < (l0.length : Int)) = true := decide_eq_true c4
   have c4b1 : decide (60 < l0.length) = true := decide_eq_true (by omega)
   clear c4
   obtain rfl := Option.some.inj H
   go_enter Tryd.func6, Tryd.ntmps6
   go_wp2_with (first | ((with_reducible refine gate_callee (f := 9) rfl ?_); refine goesL_ (some 28) rfl rfl Tryd.func9 (by kernel_rfl) rfl #[] rfl (by (try simp only [List.map_toArray, List.map_cons, List.map_nil]); first | done | rfl | (simp only [List.length_drop, List.length_take]; rfl)) ?_; (with_reducible refine (coppicelaw13_awake.calls k  true _ A2.out).mono ?_); rintro e w5 ⟨rfl, hb⟩; refine ⟨_, rfl, ?_⟩; have n0_ := Aside0.mk (below_step (by repeat (first | (with_reducible first | exact HB.out | apply below_alloc | apply pw_below_drewN | apply below_drew1) | exact HB.out)) hb); clear HB; have HB := n0_; clear n0_; (try clear hb); (try clear hb2); (try clear hk); (try clear hi)))
   go_ret
   exact ⟨by first | rfl | (simp [errW_none, errW_some] <;> rfl) | (simp [*, errW_none, errW_some] <;> rfl), by repeat (first | (with_reducible first | exact HB.out | apply below_alloc | apply pw_below_drewN | apply below_drew1) | exact HB.out)⟩
  ·rw [if_neg c4] at H
   have c4b0 : decide (60 < (l0.length : Int)) = false := decide_eq_false c4
   have c4b1 : decide (60 < l0.length) = false := decide_eq_false (by omega)
   clear c4
   have H' := Aside0.mk H
   clear H
   go_enter Tryd.func6, Tryd.ntmps6
   go_wp2_with (first | ((with_reducible refine gate_callee (f := 9) rfl ?_); refine goesL_ (some 28) rfl rfl Tryd.func9 (by kernel_rfl) rfl #[] rfl (by (try simp only [List.map_toArray, List.map_cons, List.map_nil]); first | done | rfl | (simp only [List.length_drop, List.length_take]; rfl)) ?_; (with_reducible refine (coppicelaw13_awake.calls k  true _ A2.out).mono ?_); rintro e w6 ⟨rfl, hb⟩; refine ⟨_, rfl, ?_⟩; have n0_ := Aside0.mk (below_step (by repeat (first | (with_reducible first | exact HB.out | apply below_alloc | apply pw_below_drewN | apply below_drew1) | exact HB.out)) hb); clear HB; have HB := n0_; clear n0_; (try clear hb); (try clear hb2); (try clear hk); (try clear hi)))
   go_loopg [3, 4, 5, 6] k (fun kq v3 v4 v5 v6 w' => ∃ (x3_1 : List (S39)) (x4_1 : List (S39)) (x5_1 : Int) (x6_1 : Int), v5 = .int .i64 x5_1 ∧ v6 = .int .i64 x6_1 ∧ Aside0 (coppicelaw13_SparsePlays.l0 kq l0 x3_1 x4_1 x5_1 x6_1 = some r) ∧ Aside0 (kq ≤ k) ∧ Aside0 (Kd.R k39 39 w' w.heap.size (fun k_ => some k_ ≠ (v4 : Value).ownBlock) v3 x3_1) ∧ Aside0 (Kd.R k39 39 w' w.heap.size (fun k_ => some k_ ≠ (v3 : Value).ownBlock) v4 x4_1) ∧ Aside0 (Below w.heap.size w w'))
   case atStart => exact ⟨(([] : List (S39))), (([] : List (S39))), (0), (0), (by first | rfl | (simp; done) | (simp [*]; done)), (by first | rfl | (simp; done) | (simp [*]; done)), H', ⟨Nat.le_refl _⟩, ⟨by first | exact Kd.R_nil _ _ _ _ _ | exact Kd.N_nil _ _ _ _ _ | exact Kd.V_nil _ _ _ _ _ | exact Kd.Q_nil _ _ _ _ _ | exact Kd.S_nil _ _ _ _ _⟩, ⟨by first | exact Kd.R_nil _ _ _ _ _ | exact Kd.N_nil _ _ _ _ _ | exact Kd.V_nil _ _ _ _ _ | exact Kd.Q_nil _ _ _ _ _ | exact Kd.S_nil _ _ _ _ _⟩, ⟨by repeat (first | (with_reducible first | exact HB.out | apply below_alloc | apply pw_below_drewN | apply below_drew1) | exact HB.out)⟩⟩
   case round =>
    clear H'
    try clear p2
    try clear c3
    try clear c4
    try clear c4b0
    try clear c4b1
    try clear c6
    obtain ⟨x3_1, x4_1, x5_1, x6_1, rfl, rfl, HA, HK1, HO_3, HO_4, HB⟩ := hrel
    cases gk with
    | zero => exact absurd HA.out (by simp [coppicelaw13_SparsePlays.l0])
    | succ k1 =>
     have H := HA.out
     clear HA
     simp only [coppicelaw13_SparsePlays.l0] at H
     by_cases c7 : x6_1 < (l0.length : Int)
     ·rw [if_pos c7] at H
      have c7b0 : decide (x6_1 < (l0.length : Int)) = true := decide_eq_true c7
      clear c7
      by_cases c8 : 0 ≤ x6_1
      ·rw [if_pos c8] at H
       have c8b0 : decide (0 ≤ x6_1) = true := decide_eq_true c8
       clear c8
       by_cases c9 : (((rd_T42 l0 x6_1).f3).size : Int) > 300
       ·rw [if_pos c9] at H
        have c9b0 : decide (300 < (((rd_T42 l0 x6_1).f3).size : Int)) = true := decide_eq_true c9
        have c9b1 : decide (300 < ((rd_T42 l0 x6_1).f3).size) = true := decide_eq_true (by omega)
        clear c9
        obtain rfl := Option.some.inj H
        have p201 : 0 ≤ (x6_1 : Int) := of_decide_eq_true (by first | (with_reducible assumption) | assumption)
        have q201 : x6_1 < (l0.length : Int) := of_decide_eq_true (by first | (with_reducible assumption) | assumption)
        obtain ⟨ad201, e201, hx201_0, hx201_1, hx201_2, hx201_3⟩ := at_T42 HR0.out x6_1 p201 q201
        cases e201
        replace hx201_0 := (HB.out.cell (World.block_lt_of_cell? w _ hx201_0)).trans hx201_0
        replace hx201_1 := (HB.out.cell (World.block_lt_of_cell? w _ hx201_1)).trans hx201_1
        replace hx201_2 := (HB.out.cell (World.block_lt_of_cell? w _ hx201_2)).trans hx201_2
        replace hx201_3 := (HB.out.cell (World.block_lt_of_cell? w _ hx201_3)).trans hx201_3
        replace p201 := eq_true p201
        replace q201 := eq_true q201
        go_wp2_with (first | ((with_reducible refine gate_dst (N := 7) rfl ?_); refine box_event ?hg (N := 7) ?hd (cs := #[.int .i64 0, .int .i64 0, .int .i64 0, .string (⟨#[]⟩ : ByteArray)]) (t := 42) ?hr ?_; (case hd => rfl); (case hg => rfl); (case hr => first | (go_simp; done) | (go_simp; rfl)); intro gb202 hg w10 hbox hb; have n0_ := Aside0.mk (Kd.R_below (by (with_reducible repeat (first | apply Kd.R_alloc | apply Kd.R_drewN | apply Kd.R_drew)); exact HO_3.out) hb); have n1_ := Aside0.mk (Kd.R_below (by (with_reducible repeat (first | apply Kd.R_alloc | apply Kd.R_drewN | apply Kd.R_drew)); exact HO_4.out) hb); have n2_ := Aside0.mk (below_step (by repeat (first | (with_reducible first | exact HB.out | apply below_alloc | apply pw_below_drewN | apply below_drew1) | exact HB.out)) hb); have n3_ := Aside0.mk (hbox); have n4_ := Aside0.mk ((by rw [hg]; exact (below_size (by repeat (first | (with_reducible first | exact HB.out | apply below_alloc | apply pw_below_drewN | apply below_drew1) | exact HB.out))) : w.heap.size ≤ gb202)); have n5_ := Aside0.mk ((by rw [hg]; exact (below_size (by repeat (first | (with_reducible first | exact HB.out | apply below_alloc | apply pw_below_drewN | apply below_drew1) | exact HB.out))) : w.heap.size ≤ gb202)); clear HO_3; clear HO_4; clear HB; have HO_3 := n0_; have HO_4 := n1_; have HB := n2_; have BK202 := n3_; have GW202 := n4_; have GE202 := n5_; clear n0_ n1_ n2_ n3_ n4_ n5_; clear hb hbox hg; have hcz11_0 : w10.cell? ⟨gb202, 0, none⟩ = some (.int .i64 0) := (blk_cell BK202.out 0).trans rfl; have hcz11_1 : w10.cell? ⟨gb202, 1, none⟩ = some (.int .i64 0) := (blk_cell BK202.out 1).trans rfl; have hcz11_2 : w10.cell? ⟨gb202, 2, none⟩ = some (.int .i64 0) := (blk_cell BK202.out 2).trans rfl; have hcz11_3 : w10.cell? ⟨gb202, 3, none⟩ = some (.string (⟨#[]⟩ : ByteArray)) := (blk_cell BK202.out 3).trans rfl; have hfz11_0 := blk_frozen BK202.out 0; have hfz11_1 := blk_frozen BK202.out 1; have hfz11_2 := blk_frozen BK202.out 2; have hfz11_3 := blk_frozen BK202.out 3))
        go_ret
        exact ⟨by first | rfl | (simp [errW_none, errW_some] <;> rfl) | (simp [*, errW_none, errW_some] <;> rfl), by repeat (first | (with_reducible first | exact HB.out | apply below_alloc | apply pw_below_drewN | apply below_drew1 | refine below_set ?_ GE202.out) | exact HB.out)⟩
       ·rw [if_neg c9] at H
        have c9b0 : decide (300 < (((rd_T42 l0 x6_1).f3).size : Int)) = false := decide_eq_false c9
        have c9b1 : decide (300 < ((rd_T42 l0 x6_1).f3).size) = false := decide_eq_false (by omega)
        clear c9
        have HC12 := Aside0.mk H
        clear H
        have p201 : 0 ≤ (x6_1 : Int) := of_decide_eq_true (by first | (with_reducible assumption) | assumption)
        have q201 : x6_1 < (l0.length : Int) := of_decide_eq_true (by first | (with_reducible assumption) | assumption)
        obtain ⟨ad201, e201, hx201_0, hx201_1, hx201_2, hx201_3⟩ := at_T42 HR0.out x6_1 p201 q201
        cases e201
        replace hx201_0 := (HB.out.cell (World.block_lt_of_cell? w _ hx201_0)).trans hx201_0
        replace hx201_1 := (HB.out.cell (World.block_lt_of_cell? w _ hx201_1)).trans hx201_1
        replace hx201_2 := (HB.out.cell (World.block_lt_of_cell? w _ hx201_2)).trans hx201_2
        replace hx201_3 := (HB.out.cell (World.block_lt_of_cell? w _ hx201_3)).trans hx201_3
        replace p201 := eq_true p201
        replace q201 := eq_true q201
        go_upto_block 2 with (first | ((with_reducible refine gate_dst (N := 7) rfl ?_); refine box_event ?hg (N := 7) ?hd (cs := #[.int .i64 0, .int .i64 0, .int .i64 0, .string (⟨#[]⟩ : ByteArray)]) (t := 42) ?hr ?_; (case hd => rfl); (case hg => rfl); (case hr => first | (go_simp; done) | (go_simp; rfl)); intro gb202 hg w13 hbox hb; have n0_ := Aside0.mk (Kd.R_below (by (with_reducible repeat (first | apply Kd.R_alloc | apply Kd.R_drewN | apply Kd.R_drew)); exact HO_3.out) hb); have n1_ := Aside0.mk (Kd.R_below (by (with_reducible repeat (first | apply Kd.R_alloc | apply Kd.R_drewN | apply Kd.R_drew)); exact HO_4.out) hb); have n2_ := Aside0.mk (below_step (by repeat (first | (with_reducible first | exact HB.out | apply below_alloc | apply pw_below_drewN | apply below_drew1) | exact HB.out)) hb); have n3_ := Aside0.mk (hbox); have n4_ := Aside0.mk ((by rw [hg]; exact (below_size (by repeat (first | (with_reducible first | exact HB.out | apply below_alloc | apply pw_below_drewN | apply below_drew1) | exact HB.out))) : w.heap.size ≤ gb202)); have n5_ := Aside0.mk ((by rw [hg]; exact (below_size (by repeat (first | (with_reducible first | exact HB.out | apply below_alloc | apply pw_below_drewN | apply below_drew1) | exact HB.out))) : w.heap.size ≤ gb202)); clear HO_3; clear HO_4; clear HB; have HO_3 := n0_; have HO_4 := n1_; have HB := n2_; have BK202 := n3_; have GW202 := n4_; have GE202 := n5_; clear n0_ n1_ n2_ n3_ n4_ n5_; clear hb hbox hg; have hcz14_0 : w13.cell? ⟨gb202, 0, none⟩ = some (.int .i64 0) := (blk_cell BK202.out 0).trans rfl; have hcz14_1 : w13.cell? ⟨gb202, 1, none⟩ = some (.int .i64 0) := (blk_cell BK202.out 1).trans rfl; have hcz14_2 : w13.cell? ⟨gb202, 2, none⟩ = some (.int .i64 0) := (blk_cell BK202.out 2).trans rfl; have hcz14_3 : w13.cell? ⟨gb202, 3, none⟩ = some (.string (⟨#[]⟩ : ByteArray)) := (blk_cell BK202.out 3).trans rfl; have hfz14_0 := blk_frozen BK202.out 0; have hfz14_1 := blk_frozen BK202.out 1; have hfz14_2 := blk_frozen BK202.out 2; have hfz14_3 := blk_frozen BK202.out 3))
        (try simp only [Act.put, List.setIfInBounds_toArray, List.set_cons_zero, List.set_cons_succ])
        go_cut [3, 4, 5] (fun v3 v4 v5 wc => ∃ (kq : Nat) (x3_11 : List (S39)) (x4_11 : List (S39)) (x5_11 : Int), v5 = .int .i64 x5_11 ∧ Aside0 (coppicelaw13_SparsePlays.j3 kq l0 x3_11 x4_11 x5_11 x6_1 = some r) ∧ Aside0 (kq ≤ k1) ∧ Aside0 (Kd.R k39 39 wc w.heap.size (fun k_ => some k_ ≠ (v4 : Value).ownBlock) v3 x3_11) ∧ Aside0 (Kd.R k39 39 wc w.heap.size (fun k_ => some k_ ≠ (v3 : Value).ownBlock) v4 x4_11) ∧ Aside0 (wc.heap[gb202]? = some (.cells #[.int .i64 ((rd_T42 l0 x6_1).f0), .int .i64 ((rd_T42 l0 x6_1).f1), .int .i64 ((rd_T42 l0 x6_1).f2), .string ((rd_T42 l0 x6_1).f3)] 42 (0, 0))) ∧ Aside0 (Below w.heap.size w wc))
        case first => as_aux_lemma =>
         have H := HC12.out
         clear HC12
         by_cases c15 : ((rd_T42 l0 x6_1).f0) = 0
         ·rw [if_pos c15] at H
          have c15b0 : (((rd_T42 l0 x6_1).f0) == 0) = true := beq_iff_eq.mpr c15
          have c15b1 : (((rd_T42 l0 x6_1).f0) != 0) = false := bne_eq_false_iff_eq.mpr c15
          clear c15
          (first | rw [c15b0] | (simp only [i64_w, i32_w]; rw [c15b0]) | skip)
          replace H := Option.bind_eq_some_iff.mp H
          obtain ⟨⟨t203, t204, t205⟩, A160, H⟩ := H
          replace H : ((coppiceref13_Write.f k1 x4_1 x5_1 ((rd_T42 l0 x6_1).f1) ((rd_T42 l0 x6_1).f3)).bind fun bt208 => (if t205 = bt208.2.2 then (coppicelaw13_SparsePlays.j1 k1 l0 x3_1 x4_1 x5_1 x6_1 t203 t204 t205 bt208.1 (t204 != bt208.2.1)) else (coppicelaw13_SparsePlays.j1 k1 l0 x3_1 x4_1 x5_1 x6_1 t203 t204 t205 bt208.1 true))) = some r := H
          have A16 := Aside0.mk A160
          clear A160
          replace H := Option.bind_eq_some_iff.mp H
          obtain ⟨⟨t208, t209, t210⟩, A170, H⟩ := H
          replace H : (if t205 = t210 then (coppicelaw13_SparsePlays.j1 k1 l0 x3_1 x4_1 x5_1 x6_1 t203 t204 t205 t208 (t204 != t209)) else (coppicelaw13_SparsePlays.j1 k1 l0 x3_1 x4_1 x5_1 x6_1 t203 t204 t205 t208 true)) = some r := H
          have A17 := Aside0.mk A170
          clear A170
          have HC18 := Aside0.mk H
          clear H
          have hcz19_0 : w13.cell? ⟨gb202, 0, none⟩ = some (.int .i64 0) := (blk_cell BK202.out 0).trans rfl
          have hcz19_1 : w13.cell? ⟨gb202, 1, none⟩ = some (.int .i64 0) := (blk_cell BK202.out 1).trans rfl
          have hcz19_2 : w13.cell? ⟨gb202, 2, none⟩ = some (.int .i64 0) := (blk_cell BK202.out 2).trans rfl
          have hcz19_3 : w13.cell? ⟨gb202, 3, none⟩ = some (.string (⟨#[]⟩ : ByteArray)) := (blk_cell BK202.out 3).trans rfl
          have hfz19_0 := blk_frozen BK202.out 0
          have hfz19_1 := blk_frozen BK202.out 1
          have hfz19_2 := blk_frozen BK202.out 2
          have hfz19_3 := blk_frozen BK202.out 3
          obtain ⟨Ao20, co20, eo20⟩ := Kd.R_slice HO_3.out
          subst eo20
          go_upto_region 21 with (first | ((with_reducible refine gate_callee (f := 11) rfl ?_); refine goesL_ (some 86) rfl rfl Tryd.func11 (by kernel_rfl) rfl #[.slice Ao20 x3_1.length co20, .int .i64 x5_1, .int .i64 ((rd_T42 l0 x6_1).f1), .string ((rd_T42 l0 x6_1).f3)] rfl (by (try simp only [List.map_toArray, List.map_cons, List.map_nil]); first | done | rfl | (simp only [List.length_drop, List.length_take]; rfl)) ?_; (with_reducible refine (sparse_Write.calls k1 _ _ x3_1 x5_1 ((rd_T42 l0 x6_1).f1) ((rd_T42 l0 x6_1).f3) t203 t204 t205 _ ?side1 ?side2 A16.out).mono ?_); (case side1 => refine (Kd.R_reads' (e := 39) (base := w.heap.size) (ok := fun k_ => some k_ ≠ (u4 : Value).ownBlock) (n := x3_1.length) (c := co20) ?_).2.2; exact (by (with_reducible repeat (first | apply Kd.R_alloc | apply Kd.R_drewN | apply Kd.R_drew)); exact (Kd.R_mono (Kd.R_far (p := ⟨gb202, 3, none⟩) (Kd.R_far (p := ⟨gb202, 2, none⟩) (Kd.R_far (p := ⟨gb202, 1, none⟩) (Kd.R_far (p := ⟨gb202, 0, none⟩) (Kd.R_types HO_3.out BK202.out (by decide)) (fun _ hk => hk.2) (.int .i64 ((rd_T42 l0 x6_1).f0))) (fun _ hk => hk.2) (.int .i64 ((rd_T42 l0 x6_1).f1))) (fun _ hk => hk.2) (.int .i64 ((rd_T42 l0 x6_1).f2))) (fun _ hk => hk.2) (.string ((rd_T42 l0 x6_1).f3))) (fun _ h_ => h_.1)))); (case side2 => exact (Kd.R_reads' HO_3.out).2.1); rintro e w21 ⟨v206, rfl, ho0, hb⟩; refine ⟨_, rfl, ?_⟩; have n0_ := Aside0.mk (Kd.R_elder' (by (with_reducible repeat (first | apply Kd.R_alloc | apply Kd.R_drewN | apply Kd.R_drew)); exact (Kd.R_mono (Kd.R_far (p := ⟨gb202, 3, none⟩) (Kd.R_far (p := ⟨gb202, 2, none⟩) (Kd.R_far (p := ⟨gb202, 1, none⟩) (Kd.R_far (p := ⟨gb202, 0, none⟩) (Kd.R_types HO_3.out BK202.out (by decide)) (fun _ hk => hk.2) (.int .i64 ((rd_T42 l0 x6_1).f0))) (fun _ hk => hk.2) (.int .i64 ((rd_T42 l0 x6_1).f1))) (fun _ hk => hk.2) (.int .i64 ((rd_T42 l0 x6_1).f2))) (fun _ hk => hk.2) (.string ((rd_T42 l0 x6_1).f3))) (fun _ h_ => h_.1))) (Kd.R_base ho0) hb); have n1_ := Aside0.mk (Kd.R_elder' (by (with_reducible repeat (first | apply Kd.R_alloc | apply Kd.R_drewN | apply Kd.R_drew)); exact (Kd.R_mono (Kd.R_far (p := ⟨gb202, 3, none⟩) (Kd.R_far (p := ⟨gb202, 2, none⟩) (Kd.R_far (p := ⟨gb202, 1, none⟩) (Kd.R_far (p := ⟨gb202, 0, none⟩) (Kd.R_types HO_4.out BK202.out (by decide)) (fun _ hk => hk.2) (.int .i64 ((rd_T42 l0 x6_1).f0))) (fun _ hk => hk.2) (.int .i64 ((rd_T42 l0 x6_1).f1))) (fun _ hk => hk.2) (.int .i64 ((rd_T42 l0 x6_1).f2))) (fun _ hk => hk.2) (.string ((rd_T42 l0 x6_1).f3))) (fun _ h_ => h_.1))) (Kd.R_base ho0) hb); have n2_ := Aside0.mk (Kd.R_lower (Kd.R_new' (Kd.R_new' ho0 (Kd.R_lt (by (with_reducible repeat (first | apply Kd.R_alloc | apply Kd.R_drewN | apply Kd.R_drew)); exact (Kd.R_mono (Kd.R_far (p := ⟨gb202, 3, none⟩) (Kd.R_far (p := ⟨gb202, 2, none⟩) (Kd.R_far (p := ⟨gb202, 1, none⟩) (Kd.R_far (p := ⟨gb202, 0, none⟩) (Kd.R_types HO_3.out BK202.out (by decide)) (fun _ hk => hk.2) (.int .i64 ((rd_T42 l0 x6_1).f0))) (fun _ hk => hk.2) (.int .i64 ((rd_T42 l0 x6_1).f1))) (fun _ hk => hk.2) (.int .i64 ((rd_T42 l0 x6_1).f2))) (fun _ hk => hk.2) (.string ((rd_T42 l0 x6_1).f3))) (fun _ h_ => h_.1))))) (Kd.R_lt (by (with_reducible repeat (first | apply Kd.R_alloc | apply Kd.R_drewN | apply Kd.R_drew)); exact (Kd.R_mono (Kd.R_far (p := ⟨gb202, 3, none⟩) (Kd.R_far (p := ⟨gb202, 2, none⟩) (Kd.R_far (p := ⟨gb202, 1, none⟩) (Kd.R_far (p := ⟨gb202, 0, none⟩) (Kd.R_types HO_4.out BK202.out (by decide)) (fun _ hk => hk.2) (.int .i64 ((rd_T42 l0 x6_1).f0))) (fun _ hk => hk.2) (.int .i64 ((rd_T42 l0 x6_1).f1))) (fun _ hk => hk.2) (.int .i64 ((rd_T42 l0 x6_1).f2))) (fun _ hk => hk.2) (.string ((rd_T42 l0 x6_1).f3))) (fun _ h_ => h_.1))))) (below_size (by repeat (first | (with_reducible first | exact HB.out | apply below_alloc | apply pw_below_drewN | apply below_drew1 | refine below_set ?_ GE202.out) | exact HB.out)))); have n3_ := Aside0.mk (blk_below (g := gb202) (o := .cells #[.int .i64 ((rd_T42 l0 x6_1).f0), .int .i64 ((rd_T42 l0 x6_1).f1), .int .i64 ((rd_T42 l0 x6_1).f2), .string ((rd_T42 l0 x6_1).f3)] 42 (0, 0)) (by (with_reducible repeat (first | refine blk_drewN ?_ _ | refine blk_drew ?_ | refine blk_alloc ?_ _)); refine blk_put (cs := #[.int .i64 ((rd_T42 l0 x6_1).f0), .int .i64 ((rd_T42 l0 x6_1).f1), .int .i64 ((rd_T42 l0 x6_1).f2), .string (⟨#[]⟩ : ByteArray)]) ?_ 3 _ rfl; (with_reducible repeat (first | refine blk_drewN ?_ _ | refine blk_drew ?_ | refine blk_alloc ?_ _)); refine blk_put (cs := #[.int .i64 ((rd_T42 l0 x6_1).f0), .int .i64 ((rd_T42 l0 x6_1).f1), .int .i64 0, .string (⟨#[]⟩ : ByteArray)]) ?_ 2 _ rfl; (with_reducible repeat (first | refine blk_drewN ?_ _ | refine blk_drew ?_ | refine blk_alloc ?_ _)); refine blk_put (cs := #[.int .i64 ((rd_T42 l0 x6_1).f0), .int .i64 0, .int .i64 0, .string (⟨#[]⟩ : ByteArray)]) ?_ 1 _ rfl; (with_reducible repeat (first | refine blk_drewN ?_ _ | refine blk_drew ?_ | refine blk_alloc ?_ _)); refine blk_put (cs := #[.int .i64 0, .int .i64 0, .int .i64 0, .string (⟨#[]⟩ : ByteArray)]) ?_ 0 _ rfl; (with_reducible repeat (first | refine blk_drewN ?_ _ | refine blk_drew ?_ | refine blk_alloc ?_ _)); exact BK202.out) hb); have n4_ := Aside0.mk (below_step (by repeat (first | (with_reducible first | exact HB.out | apply below_alloc | apply pw_below_drewN | apply below_drew1 | refine below_set ?_ GE202.out) | exact HB.out)) hb); clear HO_3; clear HO_4; clear BK202; clear HB; have HO_3 := n0_; have HO_4 := n1_; have HO207 := n2_; have BK202 := n3_; have HB := n4_; clear n0_ n1_ n2_ n3_ n4_; (try clear hb); (try clear hb2); (try clear hk); (try clear hi); (try clear ho0); have hcz22_0 : w21.cell? ⟨gb202, 0, none⟩ = some (.int .i64 ((rd_T42 l0 x6_1).f0)) := (blk_cell BK202.out 0).trans rfl; have hcz22_1 : w21.cell? ⟨gb202, 1, none⟩ = some (.int .i64 ((rd_T42 l0 x6_1).f1)) := (blk_cell BK202.out 1).trans rfl; have hcz22_2 : w21.cell? ⟨gb202, 2, none⟩ = some (.int .i64 ((rd_T42 l0 x6_1).f2)) := (blk_cell BK202.out 2).trans rfl; have hcz22_3 : w21.cell? ⟨gb202, 3, none⟩ = some (.string ((rd_T42 l0 x6_1).f3)) := (blk_cell BK202.out 3).trans rfl; have hfz22_0 := blk_frozen BK202.out 0; have hfz22_1 := blk_frozen BK202.out 1; have hfz22_2 := blk_frozen BK202.out 2; have hfz22_3 := blk_frozen BK202.out 3; obtain ⟨Ao23, co23, eo23⟩ := Kd.R_slice HO_4.out; subst eo23) | ((with_reducible refine gate_callee (f := 19) rfl ?_); refine goesL_ (some 97) rfl rfl Tryd.func19 (by kernel_rfl) rfl #[.slice Ao23 x4_1.length co23, .int .i64 x5_1, .int .i64 ((rd_T42 l0 x6_1).f1), .string ((rd_T42 l0 x6_1).f3)] rfl (by (try simp only [List.map_toArray, List.map_cons, List.map_nil]); first | done | rfl | (simp only [List.length_drop, List.length_take]; rfl)) ?_; (with_reducible refine (coppiceref13_Write.calls k1 _ _ x4_1 x5_1 ((rd_T42 l0 x6_1).f1) ((rd_T42 l0 x6_1).f3) t208 t209 t210 _ ?side1 ?side2 A17.out).mono ?_); (case side1 => repeat (first | exact (Kd.R_reads' HO_4.out).2.2 | (with_reducible refine Kd.C_alloc ?_ _) | (with_reducible refine Kd.C_drewN ?_ _) | (with_reducible refine Kd.C_drew ?_))); (case side2 => exact (Kd.R_reads' HO_4.out).2.1); rintro e w24 ⟨v211, rfl, ho0, hb⟩; refine ⟨_, rfl, ?_⟩; have n0_ := Aside0.mk (Kd.R_elder' (by (with_reducible repeat (first | apply Kd.R_alloc | apply Kd.R_drewN | apply Kd.R_drew)); exact HO_3.out) (Kd.R_base ho0) hb); have n1_ := Aside0.mk (Kd.R_elder' (by (with_reducible repeat (first | apply Kd.R_alloc | apply Kd.R_drewN | apply Kd.R_drew)); exact HO_4.out) (Kd.R_base ho0) hb); have n2_ := Aside0.mk (Kd.R_elder' (by (with_reducible repeat (first | apply Kd.R_alloc | apply Kd.R_drewN | apply Kd.R_drew)); exact HO207.out) (Kd.R_base ho0) hb); have n3_ := Aside0.mk (Kd.R_lower (Kd.R_new' (Kd.R_new' (Kd.R_new' ho0 (Kd.R_lt (by (with_reducible repeat (first | apply Kd.R_alloc | apply Kd.R_drewN | apply Kd.R_drew)); exact HO_3.out))) (Kd.R_lt (by (with_reducible repeat (first | apply Kd.R_alloc | apply Kd.R_drewN | apply Kd.R_drew)); exact HO_4.out))) (Kd.R_lt (by (with_reducible repeat (first | apply Kd.R_alloc | apply Kd.R_drewN | apply Kd.R_drew)); exact HO207.out))) (below_size (by repeat (first | (with_reducible first | exact HB.out | apply below_alloc | apply pw_below_drewN | apply below_drew1 | refine below_set ?_ GE202.out) | exact HB.out)))); have n4_ := Aside0.mk (blk_below (g := gb202) (o := .cells #[.int .i64 ((rd_T42 l0 x6_1).f0), .int .i64 ((rd_T42 l0 x6_1).f1), .int .i64 ((rd_T42 l0 x6_1).f2), .string ((rd_T42 l0 x6_1).f3)] 42 (0, 0)) (by (with_reducible repeat (first | refine blk_drewN ?_ _ | refine blk_drew ?_ | refine blk_alloc ?_ _)); exact BK202.out) hb); have n5_ := Aside0.mk (below_step (by repeat (first | (with_reducible first | exact HB.out | apply below_alloc | apply pw_below_drewN | apply below_drew1 | refine below_set ?_ GE202.out) | exact HB.out)) hb); clear HO_3; clear HO_4; clear HO207; clear BK202; clear HB; have HO_3 := n0_; have HO_4 := n1_; have HO207 := n2_; have HO212 := n3_; have BK202 := n4_; have HB := n5_; clear n0_ n1_ n2_ n3_ n4_ n5_; (try clear hb); (try clear hb2); (try clear hk); (try clear hi); (try clear ho0)))
          (try simp only [Act.put, List.setIfInBounds_toArray, List.set_cons_zero, List.set_cons_succ])
          go_cut [108] (fun v108 wc => ∃ (kq : Nat) (x108_17 : Bool), v108 = .bool x108_17 ∧ Aside0 (coppicelaw13_SparsePlays.j1 kq l0 x3_1 x4_1 x5_1 x6_1 t203 t204 t205 t208 x108_17 = some r) ∧ Aside0 (kq ≤ k1) ∧ Aside0 (Kd.R k39 39 wc w.heap.size (fun k_ => some k_ ≠ ((.slice Ao23 x4_1.length co23) : Value).ownBlock ∧ some k_ ≠ (v206 : Value).ownBlock ∧ some k_ ≠ (v211 : Value).ownBlock) (.slice Ao20 x3_1.length co20) x3_1) ∧ Aside0 (Kd.R k39 39 wc w.heap.size (fun k_ => some k_ ≠ ((.slice Ao20 x3_1.length co20) : Value).ownBlock ∧ some k_ ≠ (v206 : Value).ownBlock ∧ some k_ ≠ (v211 : Value).ownBlock) (.slice Ao23 x4_1.length co23) x4_1) ∧ Aside0 (Kd.R k39 39 wc w.heap.size (fun k_ => some k_ ≠ ((.slice Ao20 x3_1.length co20) : Value).ownBlock ∧ some k_ ≠ ((.slice Ao23 x4_1.length co23) : Value).ownBlock ∧ some k_ ≠ (v211 : Value).ownBlock) v206 t203) ∧ Aside0 (Kd.R k39 39 wc w.heap.size (fun k_ => some k_ ≠ ((.slice Ao20 x3_1.length co20) : Value).ownBlock ∧ some k_ ≠ ((.slice Ao23 x4_1.length co23) : Value).ownBlock ∧ some k_ ≠ (v206 : Value).ownBlock) v211 t208) ∧ Aside0 (wc.heap[gb202]? = some (.cells #[.int .i64 ((rd_T42 l0 x6_1).f0), .int .i64 ((rd_T42 l0 x6_1).f1), .int .i64 ((rd_T42 l0 x6_1).f2), .string ((rd_T42 l0 x6_1).f3)] 42 (0, 0))) ∧ Aside0 (Below w.heap.size w wc))
          case first => as_aux_lemma =>
           have H := HC18.out
           clear HC18
           by_cases c25 : t205 = t210
           ·rw [if_pos c25] at H
            have c25b0 : (t205 == t210) = true := beq_iff_eq.mpr c25
            have c25b1 : (t205 != t210) = false := bne_eq_false_iff_eq.mpr c25
            clear c25
            (first | rw [c25b0] | (simp only [i64_w, i32_w]; rw [c25b0]) | skip)
            have H' := Aside0.mk H
            clear H
            go_wp2
            go_meet
            case rel => exact ⟨_, ((t204 != t209)), (by first | rfl | (simp; done) | (simp [*]; done)), H', ⟨by have := HK1.out; first | omega | exact Nat.le_refl _⟩, ⟨by (with_reducible repeat (first | apply Kd.R_alloc | apply Kd.R_drewN | apply Kd.R_drew)); exact Kd.R_mono HO_3.out (fun _ hk => ⟨hk.1.1, ⟨hk.1.2, hk.2⟩⟩)⟩, ⟨by (with_reducible repeat (first | apply Kd.R_alloc | apply Kd.R_drewN | apply Kd.R_drew)); exact Kd.R_mono HO_4.out (fun _ hk => ⟨hk.1.1, ⟨hk.1.2, hk.2⟩⟩)⟩, ⟨by (with_reducible repeat (first | apply Kd.R_alloc | apply Kd.R_drewN | apply Kd.R_drew)); exact Kd.R_mono HO207.out (fun _ hk => ⟨hk.1.1.2, ⟨hk.1.2, hk.2⟩⟩)⟩, ⟨by (with_reducible repeat (first | apply Kd.R_alloc | apply Kd.R_drewN | apply Kd.R_drew)); exact Kd.R_mono HO212.out (fun _ hk => ⟨hk.1.1.2, ⟨hk.1.2, hk.2⟩⟩)⟩, ⟨by (with_reducible repeat (first | refine blk_drewN ?_ _ | refine blk_drew ?_ | refine blk_alloc ?_ _)); exact BK202.out⟩, ⟨by repeat (first | (with_reducible first | exact HB.out | apply below_alloc | apply pw_below_drewN | apply below_drew1 | refine below_set ?_ GE202.out) | exact HB.out)⟩⟩
           ·rw [if_neg c25] at H
            have c25b0 : (t205 == t210) = false := beq_eq_false_iff_ne.mpr c25
            have c25b1 : (t205 != t210) = true := bne_iff_ne.mpr c25
            (first | rw [c25b0] | (simp only [i64_w, i32_w]; rw [c25b0]) | skip)
            have H' := Aside0.mk H
            clear H
            go_wp2
            go_meet
            case rel => exact ⟨_, (true), (by first | rfl | (simp; done) | (simp [*]; done)), H', ⟨by have := HK1.out; first | omega | exact Nat.le_refl _⟩, ⟨by (with_reducible repeat (first | apply Kd.R_alloc | apply Kd.R_drewN | apply Kd.R_drew)); exact Kd.R_mono HO_3.out (fun _ hk => ⟨hk.1.1, ⟨hk.1.2, hk.2⟩⟩)⟩, ⟨by (with_reducible repeat (first | apply Kd.R_alloc | apply Kd.R_drewN | apply Kd.R_drew)); exact Kd.R_mono HO_4.out (fun _ hk => ⟨hk.1.1, ⟨hk.1.2, hk.2⟩⟩)⟩, ⟨by (with_reducible repeat (first | apply Kd.R_alloc | apply Kd.R_drewN | apply Kd.R_drew)); exact Kd.R_mono HO207.out (fun _ hk => ⟨hk.1.1.2, ⟨hk.1.2, hk.2⟩⟩)⟩, ⟨by (with_reducible repeat (first | apply Kd.R_alloc | apply Kd.R_drewN | apply Kd.R_drew)); exact Kd.R_mono HO212.out (fun _ hk => ⟨hk.1.1.2, ⟨hk.1.2, hk.2⟩⟩)⟩, ⟨by (with_reducible repeat (first | refine blk_drewN ?_ _ | refine blk_drew ?_ | refine blk_alloc ?_ _)); exact BK202.out⟩, ⟨by repeat (first | (with_reducible first | exact HB.out | apply below_alloc | apply pw_below_drewN | apply below_drew1 | refine below_set ?_ GE202.out) | exact HB.out)⟩⟩
          case rest => as_aux_lemma =>
           clear HC18
           try clear c1
           try clear c2
           try clear p2
           try clear q2
           try clear hx2
           try clear c3
           try clear c4
           try clear c4b0
           try clear c4b1
           try clear c6
           try clear c7
           try clear c7b0
           try clear c8
           try clear c8b0
           try clear c9
           try clear c9b0
           try clear c9b1
           try clear c11
           try clear c15
           try clear c15b0
           try clear c15b1
           try clear c19
           try clear p20
           try clear q20
           try clear hx20
           try clear c25
           try clear c25b0
           try clear c25b1
           try clear hcz11_0
           try clear hcz11_1
           try clear hcz11_2
           try clear hcz11_3
           try clear hcz14_0
           try clear hcz14_1
           try clear hcz14_2
           try clear hcz14_3
           try clear hcz19_0
           try clear hcz19_1
           try clear hcz19_2
           try clear hcz19_3
           try clear hcz22_0
           try clear hcz22_1
           try clear hcz22_2
           try clear hcz22_3
           try clear hfz11_0
           try clear hfz11_1
           try clear hfz11_2
           try clear hfz11_3
           try clear hfz14_0
           try clear hfz14_1
           try clear hfz14_2
           try clear hfz14_3
           try clear hfz19_0
           try clear hfz19_1
           try clear hfz19_2
           try clear hfz19_3
           try clear hfz22_0
           try clear hfz22_1
           try clear hfz22_2
           try clear hfz22_3
           try clear hx201_0
           try clear hx201_1
           try clear hx201_2
           try clear hx201_3
           try clear p2
           try clear p201
           try clear q201
           obtain ⟨kq, x108_17, rfl, HA, HJ17, HO_3, HO_4, HO_8, HO_11, BK202, HB⟩ := hcut
           cases kq with
           | zero => exact absurd HA.out (by simp [coppicelaw13_SparsePlays.j1])
           | succ kj17 =>
            have H := HA.out
            clear HA
            simp only [coppicelaw13_SparsePlays.j1] at H
            by_cases c26 : x108_17 = true
            ·subst c26
             have H1 : (some false) = some r := by rw [if_pos rfl] at H; exact H
             clear H
             have H := H1
             clear H1
             obtain rfl := Option.some.inj H
             go_wp2
             go_ret
             exact ⟨by first | rfl | (simp [errW_none, errW_some] <;> rfl) | (simp [*, errW_none, errW_some] <;> rfl), by repeat (first | (with_reducible first | exact HB.out | apply below_alloc | apply pw_below_drewN | apply below_drew1 | refine below_set ?_ GE202.out) | exact HB.out)⟩
            ·replace c26 := Bool.eq_false_iff.mpr c26
             subst c26
             have H1 : (if t205 = 0 then (coppicelaw13_SparsePlays.j3 kj17 l0 t203 t208 t204 x6_1) else (coppicelaw13_SparsePlays.j3 kj17 l0 x3_1 x4_1 x5_1 x6_1)) = some r := by rw [if_neg (show ¬ (false = true) by decide)] at H; exact H
             clear H
             have H := H1
             clear H1
             by_cases c27 : t205 = 0
             ·rw [if_pos c27] at H
              have c27b0 : (t205 == 0) = true := beq_iff_eq.mpr c27
              have c27b1 : (t205 != 0) = false := bne_eq_false_iff_eq.mpr c27
              clear c27
              have H' := Aside0.mk H
              clear H
              go_wp2
              go_meet
              case rel => exact ⟨_, (t203), (t208), (t204), (by first | rfl | (simp; done) | (simp [*]; done)), H', ⟨by have := HK1.out; have := HJ17.out; first | omega | exact Nat.le_refl _⟩, ⟨by (with_reducible repeat (first | apply Kd.R_alloc | apply Kd.R_drewN | apply Kd.R_drew)); exact Kd.R_mono HO_8.out (fun _ hk => hk.2.2)⟩, ⟨by (with_reducible repeat (first | apply Kd.R_alloc | apply Kd.R_drewN | apply Kd.R_drew)); exact Kd.R_mono HO_11.out (fun _ hk => hk.2.2)⟩, ⟨by (with_reducible repeat (first | refine blk_drewN ?_ _ | refine blk_drew ?_ | refine blk_alloc ?_ _)); exact BK202.out⟩, ⟨by repeat (first | (with_reducible first | exact HB.out | apply below_alloc | apply pw_below_drewN | apply below_drew1 | refine below_set ?_ GE202.out) | exact HB.out)⟩⟩
             ·rw [if_neg c27] at H
              have c27b0 : (t205 == 0) = false := beq_eq_false_iff_ne.mpr c27
              have c27b1 : (t205 != 0) = true := bne_iff_ne.mpr c27
              have H' := Aside0.mk H
              clear H
              go_wp2
              go_meet
              case rel => exact ⟨_, (x3_1), (x4_1), (x5_1), (by first | rfl | (simp; done) | (simp [*]; done)), H', ⟨by have := HK1.out; have := HJ17.out; first | omega | exact Nat.le_refl _⟩, ⟨by (with_reducible repeat (first | apply Kd.R_alloc | apply Kd.R_drewN | apply Kd.R_drew)); exact Kd.R_mono HO_3.out (fun _ hk => hk.1)⟩, ⟨by (with_reducible repeat (first | apply Kd.R_alloc | apply Kd.R_drewN | apply Kd.R_drew)); exact Kd.R_mono HO_4.out (fun _ hk => hk.1)⟩, ⟨by (with_reducible repeat (first | refine blk_drewN ?_ _ | refine blk_drew ?_ | refine blk_alloc ?_ _)); exact BK202.out⟩, ⟨by repeat (first | (with_reducible first | exact HB.out | apply below_alloc | apply pw_below_drewN | apply below_drew1 | refine below_set ?_ GE202.out) | exact HB.out)⟩⟩
         ·rw [if_neg c15] at H
          have c15b0 : (((rd_T42 l0 x6_1).f0) == 0) = false := beq_eq_false_iff_ne.mpr c15
          have c15b1 : (((rd_T42 l0 x6_1).f0) != 0) = true := bne_iff_ne.mpr c15
          (first | rw [c15b0] | (simp only [i64_w, i32_w]; rw [c15b0]) | skip)
          by_cases c28 : ((rd_T42 l0 x6_1).f0) = 1
          ·rw [if_pos c28] at H
           have c28b0 : (((rd_T42 l0 x6_1).f0) == 1) = true := beq_iff_eq.mpr c28
           have c28b1 : (((rd_T42 l0 x6_1).f0) != 1) = false := bne_eq_false_iff_eq.mpr c28
           clear c28
           replace H := Option.bind_eq_some_iff.mp H
           obtain ⟨⟨t213, t214, t215⟩, A290, H⟩ := H
           replace H : ((coppiceref13_Truncate.f k1 x4_1 x5_1 ((rd_T42 l0 x6_1).f2)).bind fun bt218 => (if t215 = bt218.2.2 then (coppicelaw13_SparsePlays.j2 k1 l0 x3_1 x4_1 x5_1 x6_1 t213 t214 t215 bt218.1 (t214 != bt218.2.1)) else (coppicelaw13_SparsePlays.j2 k1 l0 x3_1 x4_1 x5_1 x6_1 t213 t214 t215 bt218.1 true))) = some r := H
           have A29 := Aside0.mk A290
           clear A290
           replace H := Option.bind_eq_some_iff.mp H
           obtain ⟨⟨t218, t219, t220⟩, A300, H⟩ := H
           replace H : (if t215 = t220 then (coppicelaw13_SparsePlays.j2 k1 l0 x3_1 x4_1 x5_1 x6_1 t213 t214 t215 t218 (t214 != t219)) else (coppicelaw13_SparsePlays.j2 k1 l0 x3_1 x4_1 x5_1 x6_1 t213 t214 t215 t218 true)) = some r := H
           have A30 := Aside0.mk A300
           clear A300
           have HC31 := Aside0.mk H
           clear H
           have hcz32_0 : w13.cell? ⟨gb202, 0, none⟩ = some (.int .i64 0) := (blk_cell BK202.out 0).trans rfl
           have hcz32_1 : w13.cell? ⟨gb202, 1, none⟩ = some (.int .i64 0) := (blk_cell BK202.out 1).trans rfl
           have hcz32_2 : w13.cell? ⟨gb202, 2, none⟩ = some (.int .i64 0) := (blk_cell BK202.out 2).trans rfl
           have hcz32_3 : w13.cell? ⟨gb202, 3, none⟩ = some (.string (⟨#[]⟩ : ByteArray)) := (blk_cell BK202.out 3).trans rfl
           have hfz32_0 := blk_frozen BK202.out 0
           have hfz32_1 := blk_frozen BK202.out 1
           have hfz32_2 := blk_frozen BK202.out 2
           have hfz32_3 := blk_frozen BK202.out 3
           obtain ⟨Ao33, co33, eo33⟩ := Kd.R_slice HO_3.out
           subst eo33
           go_upto_region 28 with (first | ((with_reducible refine gate_callee (f := 16) rfl ?_); refine goesL_ (some 121) rfl rfl Tryd.func16 (by kernel_rfl) rfl #[.slice Ao33 x3_1.length co33, .int .i64 x5_1, .int .i64 ((rd_T42 l0 x6_1).f2)] rfl (by (try simp only [List.map_toArray, List.map_cons, List.map_nil]); first | done | rfl | (simp only [List.length_drop, List.length_take]; rfl)) ?_; (with_reducible refine (sparse_Truncate.calls k1 _ _ x3_1 x5_1 ((rd_T42 l0 x6_1).f2) t213 t214 t215 _ ?side1 ?side2 A29.out).mono ?_); (case side1 => refine (Kd.R_reads' (e := 39) (base := w.heap.size) (ok := fun k_ => some k_ ≠ (u4 : Value).ownBlock) (n := x3_1.length) (c := co33) ?_).2.2; exact (by (with_reducible repeat (first | apply Kd.R_alloc | apply Kd.R_drewN | apply Kd.R_drew)); exact (Kd.R_mono (Kd.R_far (p := ⟨gb202, 3, none⟩) (Kd.R_far (p := ⟨gb202, 2, none⟩) (Kd.R_far (p := ⟨gb202, 1, none⟩) (Kd.R_far (p := ⟨gb202, 0, none⟩) (Kd.R_types HO_3.out BK202.out (by decide)) (fun _ hk => hk.2) (.int .i64 ((rd_T42 l0 x6_1).f0))) (fun _ hk => hk.2) (.int .i64 ((rd_T42 l0 x6_1).f1))) (fun _ hk => hk.2) (.int .i64 ((rd_T42 l0 x6_1).f2))) (fun _ hk => hk.2) (.string ((rd_T42 l0 x6_1).f3))) (fun _ h_ => h_.1)))); (case side2 => exact (Kd.R_reads' HO_3.out).2.1); rintro e w34 ⟨v216, rfl, ho0, hb⟩; refine ⟨_, rfl, ?_⟩; have n0_ := Aside0.mk (Kd.R_elder' (by (with_reducible repeat (first | apply Kd.R_alloc | apply Kd.R_drewN | apply Kd.R_drew)); exact (Kd.R_mono (Kd.R_far (p := ⟨gb202, 3, none⟩) (Kd.R_far (p := ⟨gb202, 2, none⟩) (Kd.R_far (p := ⟨gb202, 1, none⟩) (Kd.R_far (p := ⟨gb202, 0, none⟩) (Kd.R_types HO_3.out BK202.out (by decide)) (fun _ hk => hk.2) (.int .i64 ((rd_T42 l0 x6_1).f0))) (fun _ hk => hk.2) (.int .i64 ((rd_T42 l0 x6_1).f1))) (fun _ hk => hk.2) (.int .i64 ((rd_T42 l0 x6_1).f2))) (fun _ hk => hk.2) (.string ((rd_T42 l0 x6_1).f3))) (fun _ h_ => h_.1))) (Kd.R_base ho0) hb); have n1_ := Aside0.mk (Kd.R_elder' (by (with_reducible repeat (first | apply Kd.R_alloc | apply Kd.R_drewN | apply Kd.R_drew)); exact (Kd.R_mono (Kd.R_far (p := ⟨gb202, 3, none⟩) (Kd.R_far (p := ⟨gb202, 2, none⟩) (Kd.R_far (p := ⟨gb202, 1, none⟩) (Kd.R_far (p := ⟨gb202, 0, none⟩) (Kd.R_types HO_4.out BK202.out (by decide)) (fun _ hk => hk.2) (.int .i64 ((rd_T42 l0 x6_1).f0))) (fun _ hk => hk.2) (.int .i64 ((rd_T42 l0 x6_1).f1))) (fun _ hk => hk.2) (.int .i64 ((rd_T42 l0 x6_1).f2))) (fun _ hk => hk.2) (.string ((rd_T42 l0 x6_1).f3))) (fun _ h_ => h_.1))) (Kd.R_base ho0) hb); have n2_ := Aside0.mk (Kd.R_lower (Kd.R_new' (Kd.R_new' ho0 (Kd.R_lt (by (with_reducible repeat (first | apply Kd.R_alloc | apply Kd.R_drewN | apply Kd.R_drew)); exact (Kd.R_mono (Kd.R_far (p := ⟨gb202, 3, none⟩) (Kd.R_far (p := ⟨gb202, 2, none⟩) (Kd.R_far (p := ⟨gb202, 1, none⟩) (Kd.R_far (p := ⟨gb202, 0, none⟩) (Kd.R_types HO_3.out BK202.out (by decide)) (fun _ hk => hk.2) (.int .i64 ((rd_T42 l0 x6_1).f0))) (fun _ hk => hk.2) (.int .i64 ((rd_T42 l0 x6_1).f1))) (fun _ hk => hk.2) (.int .i64 ((rd_T42 l0 x6_1).f2))) (fun _ hk => hk.2) (.string ((rd_T42 l0 x6_1).f3))) (fun _ h_ => h_.1))))) (Kd.R_lt (by (with_reducible repeat (first | apply Kd.R_alloc | apply Kd.R_drewN | apply Kd.R_drew)); exact (Kd.R_mono (Kd.R_far (p := ⟨gb202, 3, none⟩) (Kd.R_far (p := ⟨gb202, 2, none⟩) (Kd.R_far (p := ⟨gb202, 1, none⟩) (Kd.R_far (p := ⟨gb202, 0, none⟩) (Kd.R_types HO_4.out BK202.out (by decide)) (fun _ hk => hk.2) (.int .i64 ((rd_T42 l0 x6_1).f0))) (fun _ hk => hk.2) (.int .i64 ((rd_T42 l0 x6_1).f1))) (fun _ hk => hk.2) (.int .i64 ((rd_T42 l0 x6_1).f2))) (fun _ hk => hk.2) (.string ((rd_T42 l0 x6_1).f3))) (fun _ h_ => h_.1))))) (below_size (by repeat (first | (with_reducible first | exact HB.out | apply below_alloc | apply pw_below_drewN | apply below_drew1 | refine below_set ?_ GE202.out) | exact HB.out)))); have n3_ := Aside0.mk (blk_below (g := gb202) (o := .cells #[.int .i64 ((rd_T42 l0 x6_1).f0), .int .i64 ((rd_T42 l0 x6_1).f1), .int .i64 ((rd_T42 l0 x6_1).f2), .string ((rd_T42 l0 x6_1).f3)] 42 (0, 0)) (by (with_reducible repeat (first | refine blk_drewN ?_ _ | refine blk_drew ?_ | refine blk_alloc ?_ _)); refine blk_put (cs := #[.int .i64 ((rd_T42 l0 x6_1).f0), .int .i64 ((rd_T42 l0 x6_1).f1), .int .i64 ((rd_T42 l0 x6_1).f2), .string (⟨#[]⟩ : ByteArray)]) ?_ 3 _ rfl; (with_reducible repeat (first | refine blk_drewN ?_ _ | refine blk_drew ?_ | refine blk_alloc ?_ _)); refine blk_put (cs := #[.int .i64 ((rd_T42 l0 x6_1).f0), .int .i64 ((rd_T42 l0 x6_1).f1), .int .i64 0, .string (⟨#[]⟩ : ByteArray)]) ?_ 2 _ rfl; (with_reducible repeat (first | refine blk_drewN ?_ _ | refine blk_drew ?_ | refine blk_alloc ?_ _)); refine blk_put (cs := #[.int .i64 ((rd_T42 l0 x6_1).f0), .int .i64 0, .int .i64 0, .string (⟨#[]⟩ : ByteArray)]) ?_ 1 _ rfl; (with_reducible repeat (first | refine blk_drewN ?_ _ | refine blk_drew ?_ | refine blk_alloc ?_ _)); refine blk_put (cs := #[.int .i64 0, .int .i64 0, .int .i64 0, .string (⟨#[]⟩ : ByteArray)]) ?_ 0 _ rfl; (with_reducible repeat (first | refine blk_drewN ?_ _ | refine blk_drew ?_ | refine blk_alloc ?_ _)); exact BK202.out) hb); have n4_ := Aside0.mk (below_step (by repeat (first | (with_reducible first | exact HB.out | apply below_alloc | apply pw_below_drewN | apply below_drew1 | refine below_set ?_ GE202.out) | exact HB.out)) hb); clear HO_3; clear HO_4; clear BK202; clear HB; have HO_3 := n0_; have HO_4 := n1_; have HO217 := n2_; have BK202 := n3_; have HB := n4_; clear n0_ n1_ n2_ n3_ n4_; (try clear hb); (try clear hb2); (try clear hk); (try clear hi); (try clear ho0); have hcz35_0 : w34.cell? ⟨gb202, 0, none⟩ = some (.int .i64 ((rd_T42 l0 x6_1).f0)) := (blk_cell BK202.out 0).trans rfl; have hcz35_1 : w34.cell? ⟨gb202, 1, none⟩ = some (.int .i64 ((rd_T42 l0 x6_1).f1)) := (blk_cell BK202.out 1).trans rfl; have hcz35_2 : w34.cell? ⟨gb202, 2, none⟩ = some (.int .i64 ((rd_T42 l0 x6_1).f2)) := (blk_cell BK202.out 2).trans rfl; have hcz35_3 : w34.cell? ⟨gb202, 3, none⟩ = some (.string ((rd_T42 l0 x6_1).f3)) := (blk_cell BK202.out 3).trans rfl; have hfz35_0 := blk_frozen BK202.out 0; have hfz35_1 := blk_frozen BK202.out 1; have hfz35_2 := blk_frozen BK202.out 2; have hfz35_3 := blk_frozen BK202.out 3; obtain ⟨Ao36, co36, eo36⟩ := Kd.R_slice HO_4.out; subst eo36) | ((with_reducible refine gate_callee (f := 20) rfl ?_); refine goesL_ (some 130) rfl rfl Tryd.func20 (by kernel_rfl) rfl #[.slice Ao36 x4_1.length co36, .int .i64 x5_1, .int .i64 ((rd_T42 l0 x6_1).f2)] rfl (by (try simp only [List.map_toArray, List.map_cons, List.map_nil]); first | done | rfl | (simp only [List.length_drop, List.length_take]; rfl)) ?_; (with_reducible refine (coppiceref13_Truncate.calls k1 _ _ x4_1 x5_1 ((rd_T42 l0 x6_1).f2) t218 t219 t220 _ ?side1 ?side2 A30.out).mono ?_); (case side1 => repeat (first | exact (Kd.R_reads' HO_4.out).2.2 | (with_reducible refine Kd.C_alloc ?_ _) | (with_reducible refine Kd.C_drewN ?_ _) | (with_reducible refine Kd.C_drew ?_))); (case side2 => exact (Kd.R_reads' HO_4.out).2.1); rintro e w37 ⟨v221, rfl, ho0, hb⟩; refine ⟨_, rfl, ?_⟩; have n0_ := Aside0.mk (Kd.R_elder' (by (with_reducible repeat (first | apply Kd.R_alloc | apply Kd.R_drewN | apply Kd.R_drew)); exact HO_3.out) (Kd.R_base ho0) hb); have n1_ := Aside0.mk (Kd.R_elder' (by (with_reducible repeat (first | apply Kd.R_alloc | apply Kd.R_drewN | apply Kd.R_drew)); exact HO_4.out) (Kd.R_base ho0) hb); have n2_ := Aside0.mk (Kd.R_elder' (by (with_reducible repeat (first | apply Kd.R_alloc | apply Kd.R_drewN | apply Kd.R_drew)); exact HO217.out) (Kd.R_base ho0) hb); have n3_ := Aside0.mk (Kd.R_lower (Kd.R_new' (Kd.R_new' (Kd.R_new' ho0 (Kd.R_lt (by (with_reducible repeat (first | apply Kd.R_alloc | apply Kd.R_drewN | apply Kd.R_drew)); exact HO_3.out))) (Kd.R_lt (by (with_reducible repeat (first | apply Kd.R_alloc | apply Kd.R_drewN | apply Kd.R_drew)); exact HO_4.out))) (Kd.R_lt (by (with_reducible repeat (first | apply Kd.R_alloc | apply Kd.R_drewN | apply Kd.R_drew)); exact HO217.out))) (below_size (by repeat (first | (with_reducible first | exact HB.out | apply below_alloc | apply pw_below_drewN | apply below_drew1 | refine below_set ?_ GE202.out) | exact HB.out)))); have n4_ := Aside0.mk (blk_below (g := gb202) (o := .cells #[.int .i64 ((rd_T42 l0 x6_1).f0), .int .i64 ((rd_T42 l0 x6_1).f1), .int .i64 ((rd_T42 l0 x6_1).f2), .string ((rd_T42 l0 x6_1).f3)] 42 (0, 0)) (by (with_reducible repeat (first | refine blk_drewN ?_ _ | refine blk_drew ?_ | refine blk_alloc ?_ _)); exact BK202.out) hb); have n5_ := Aside0.mk (below_step (by repeat (first | (with_reducible first | exact HB.out | apply below_alloc | apply pw_below_drewN | apply below_drew1 | refine below_set ?_ GE202.out) | exact HB.out)) hb); clear HO_3; clear HO_4; clear HO217; clear BK202; clear HB; have HO_3 := n0_; have HO_4 := n1_; have HO217 := n2_; have HO222 := n3_; have BK202 := n4_; have HB := n5_; clear n0_ n1_ n2_ n3_ n4_ n5_; (try clear hb); (try clear hb2); (try clear hk); (try clear hi); (try clear ho0)))
           (try simp only [Act.put, List.setIfInBounds_toArray, List.set_cons_zero, List.set_cons_succ])
           go_cut [141] (fun v141 wc => ∃ (kq : Nat) (x141_30 : Bool), v141 = .bool x141_30 ∧ Aside0 (coppicelaw13_SparsePlays.j2 kq l0 x3_1 x4_1 x5_1 x6_1 t213 t214 t215 t218 x141_30 = some r) ∧ Aside0 (kq ≤ k1) ∧ Aside0 (Kd.R k39 39 wc w.heap.size (fun k_ => some k_ ≠ ((.slice Ao36 x4_1.length co36) : Value).ownBlock ∧ some k_ ≠ (v216 : Value).ownBlock ∧ some k_ ≠ (v221 : Value).ownBlock) (.slice Ao33 x3_1.length co33) x3_1) ∧ Aside0 (Kd.R k39 39 wc w.heap.size (fun k_ => some k_ ≠ ((.slice Ao33 x3_1.length co33) : Value).ownBlock ∧ some k_ ≠ (v216 : Value).ownBlock ∧ some k_ ≠ (v221 : Value).ownBlock) (.slice Ao36 x4_1.length co36) x4_1) ∧ Aside0 (Kd.R k39 39 wc w.heap.size (fun k_ => some k_ ≠ ((.slice Ao33 x3_1.length co33) : Value).ownBlock ∧ some k_ ≠ ((.slice Ao36 x4_1.length co36) : Value).ownBlock ∧ some k_ ≠ (v221 : Value).ownBlock) v216 t213) ∧ Aside0 (Kd.R k39 39 wc w.heap.size (fun k_ => some k_ ≠ ((.slice Ao33 x3_1.length co33) : Value).ownBlock ∧ some k_ ≠ ((.slice Ao36 x4_1.length co36) : Value).ownBlock ∧ some k_ ≠ (v216 : Value).ownBlock) v221 t218) ∧ Aside0 (wc.heap[gb202]? = some (.cells #[.int .i64 ((rd_T42 l0 x6_1).f0), .int .i64 ((rd_T42 l0 x6_1).f1), .int .i64 ((rd_T42 l0 x6_1).f2), .string ((rd_T42 l0 x6_1).f3)] 42 (0, 0))) ∧ Aside0 (Below w.heap.size w wc))
           case first => as_aux_lemma =>
            have H := HC31.out
            clear HC31
            by_cases c38 : t215 = t220
            ·rw [if_pos c38] at H
             have c38b0 : (t215 == t220) = true := beq_iff_eq.mpr c38
             have c38b1 : (t215 != t220) = false := bne_eq_false_iff_eq.mpr c38
             clear c38
             (first | rw [c38b0] | (simp only [i64_w, i32_w]; rw [c38b0]) | skip)
             have H' := Aside0.mk H
             clear H
             go_wp2
             go_meet
             case rel => exact ⟨_, ((t214 != t219)), (by first | rfl | (simp; done) | (simp [*]; done)), H', ⟨by have := HK1.out; first | omega | exact Nat.le_refl _⟩, ⟨by (with_reducible repeat (first | apply Kd.R_alloc | apply Kd.R_drewN | apply Kd.R_drew)); exact Kd.R_mono HO_3.out (fun _ hk => ⟨hk.1.1, ⟨hk.1.2, hk.2⟩⟩)⟩, ⟨by (with_reducible repeat (first | apply Kd.R_alloc | apply Kd.R_drewN | apply Kd.R_drew)); exact Kd.R_mono HO_4.out (fun _ hk => ⟨hk.1.1, ⟨hk.1.2, hk.2⟩⟩)⟩, ⟨by (with_reducible repeat (first | apply Kd.R_alloc | apply Kd.R_drewN | apply Kd.R_drew)); exact Kd.R_mono HO217.out (fun _ hk => ⟨hk.1.1.2, ⟨hk.1.2, hk.2⟩⟩)⟩, ⟨by (with_reducible repeat (first | apply Kd.R_alloc | apply Kd.R_drewN | apply Kd.R_drew)); exact Kd.R_mono HO222.out (fun _ hk => ⟨hk.1.1.2, ⟨hk.1.2, hk.2⟩⟩)⟩, ⟨by (with_reducible repeat (first | refine blk_drewN ?_ _ | refine blk_drew ?_ | refine blk_alloc ?_ _)); exact BK202.out⟩, ⟨by repeat (first | (with_reducible first | exact HB.out | apply below_alloc | apply pw_below_drewN | apply below_drew1 | refine below_set ?_ GE202.out) | exact HB.out)⟩⟩
            ·rw [if_neg c38] at H
             have c38b0 : (t215 == t220) = false := beq_eq_false_iff_ne.mpr c38
             have c38b1 : (t215 != t220) = true := bne_iff_ne.mpr c38
             (first | rw [c38b0] | (simp only [i64_w, i32_w]; rw [c38b0]) | skip)
             have H' := Aside0.mk H
             clear H
             go_wp2
             go_meet
             case rel => exact ⟨_, (true), (by first | rfl | (simp; done) | (simp [*]; done)), H', ⟨by have := HK1.out; first | omega | exact Nat.le_refl _⟩, ⟨by (with_reducible repeat (first | apply Kd.R_alloc | apply Kd.R_drewN | apply Kd.R_drew)); exact Kd.R_mono HO_3.out (fun _ hk => ⟨hk.1.1, ⟨hk.1.2, hk.2⟩⟩)⟩, ⟨by (with_reducible repeat (first | apply Kd.R_alloc | apply Kd.R_drewN | apply Kd.R_drew)); exact Kd.R_mono HO_4.out (fun _ hk => ⟨hk.1.1, ⟨hk.1.2, hk.2⟩⟩)⟩, ⟨by (with_reducible repeat (first | apply Kd.R_alloc | apply Kd.R_drewN | apply Kd.R_drew)); exact Kd.R_mono HO217.out (fun _ hk => ⟨hk.1.1.2, ⟨hk.1.2, hk.2⟩⟩)⟩, ⟨by (with_reducible repeat (first | apply Kd.R_alloc | apply Kd.R_drewN | apply Kd.R_drew)); exact Kd.R_mono HO222.out (fun _ hk => ⟨hk.1.1.2, ⟨hk.1.2, hk.2⟩⟩)⟩, ⟨by (with_reducible repeat (first | refine blk_drewN ?_ _ | refine blk_drew ?_ | refine blk_alloc ?_ _)); exact BK202.out⟩, ⟨by repeat (first | (with_reducible first | exact HB.out | apply below_alloc | apply pw_below_drewN | apply below_drew1 | refine below_set ?_ GE202.out) | exact HB.out)⟩⟩
           case rest => as_aux_lemma =>
            clear HC31
            try clear c1
            try clear c2
            try clear p2
            try clear q2
            try clear hx2
            try clear c3
            try clear c4
            try clear c4b0
            try clear c4b1
            try clear c6
            try clear c7
            try clear c7b0
            try clear c8
            try clear c8b0
            try clear c9
            try clear c9b0
            try clear c9b1
            try clear c11
            try clear c15
            try clear c15b0
            try clear c15b1
            try clear c16
            try clear c19
            try clear c20
            try clear p20
            try clear q20
            try clear hx20
            try clear c25
            try clear c25b0
            try clear c25b1
            try clear c26
            try clear c27
            try clear c27b0
            try clear c27b1
            try clear c28
            try clear c28b0
            try clear c28b1
            try clear c38
            try clear c38b0
            try clear c38b1
            try clear hcz11_0
            try clear hcz11_1
            try clear hcz11_2
            try clear hcz11_3
            try clear hcz14_0
            try clear hcz14_1
            try clear hcz14_2
            try clear hcz14_3
            try clear hcz19_0
            try clear hcz19_1
            try clear hcz19_2
            try clear hcz19_3
            try clear hcz22_0
            try clear hcz22_1
            try clear hcz22_2
            try clear hcz22_3
            try clear hcz32_0
            try clear hcz32_1
            try clear hcz32_2
            try clear hcz32_3
            try clear hcz35_0
            try clear hcz35_1
            try clear hcz35_2
            try clear hcz35_3
            try clear hfz11_0
            try clear hfz11_1
            try clear hfz11_2
            try clear hfz11_3
            try clear hfz14_0
            try clear hfz14_1
            try clear hfz14_2
            try clear hfz14_3
            try clear hfz19_0
            try clear hfz19_1
            try clear hfz19_2
            try clear hfz19_3
            try clear hfz22_0
            try clear hfz22_1
            try clear hfz22_2
            try clear hfz22_3
            try clear hfz32_0
            try clear hfz32_1
            try clear hfz32_2
            try clear hfz32_3
            try clear hfz35_0
            try clear hfz35_1
            try clear hfz35_2
            try clear hfz35_3
            try clear hx201_0
            try clear hx201_1
            try clear hx201_2
            try clear hx201_3
            try clear p2
            try clear p20
            try clear p201
            try clear q2
            try clear q20
            try clear q201
            obtain ⟨kq, x141_30, rfl, HA, HJ30, HO_3, HO_4, HO_14, HO_17, BK202, HB⟩ := hcut
            cases kq with
            | zero => exact absurd HA.out (by simp [coppicelaw13_SparsePlays.j2])
            | succ kj30 =>
             have H := HA.out
             clear HA
             simp only [coppicelaw13_SparsePlays.j2] at H
             by_cases c39 : x141_30 = true
             ·subst c39
              have H1 : (some false) = some r := by rw [if_pos rfl] at H; exact H
              clear H
              have H := H1
              clear H1
              obtain rfl := Option.some.inj H
              go_wp2
              go_ret
              exact ⟨by first | rfl | (simp [errW_none, errW_some] <;> rfl) | (simp [*, errW_none, errW_some] <;> rfl), by repeat (first | (with_reducible first | exact HB.out | apply below_alloc | apply pw_below_drewN | apply below_drew1 | refine below_set ?_ GE202.out) | exact HB.out)⟩
             ·replace c39 := Bool.eq_false_iff.mpr c39
              subst c39
              have H1 : (if t215 = 0 then (coppicelaw13_SparsePlays.j3 kj30 l0 t213 t218 t214 x6_1) else (coppicelaw13_SparsePlays.j3 kj30 l0 x3_1 x4_1 x5_1 x6_1)) = some r := by rw [if_neg (show ¬ (false = true) by decide)] at H; exact H
              clear H
              have H := H1
              clear H1
              by_cases c40 : t215 = 0
              ·rw [if_pos c40] at H
               have c40b0 : (t215 == 0) = true := beq_iff_eq.mpr c40
               have c40b1 : (t215 != 0) = false := bne_eq_false_iff_eq.mpr c40
               clear c40
               have H' := Aside0.mk H
               clear H
               go_wp2
               go_meet
               case rel => exact ⟨_, (t213), (t218), (t214), (by first | rfl | (simp; done) | (simp [*]; done)), H', ⟨by have := HK1.out; have := HJ30.out; first | omega | exact Nat.le_refl _⟩, ⟨by (with_reducible repeat (first | apply Kd.R_alloc | apply Kd.R_drewN | apply Kd.R_drew)); exact Kd.R_mono HO_14.out (fun _ hk => hk.2.2)⟩, ⟨by (with_reducible repeat (first | apply Kd.R_alloc | apply Kd.R_drewN | apply Kd.R_drew)); exact Kd.R_mono HO_17.out (fun _ hk => hk.2.2)⟩, ⟨by (with_reducible repeat (first | refine blk_drewN ?_ _ | refine blk_drew ?_ | refine blk_alloc ?_ _)); exact BK202.out⟩, ⟨by repeat (first | (with_reducible first | exact HB.out | apply below_alloc | apply pw_below_drewN | apply below_drew1 | refine below_set ?_ GE202.out) | exact HB.out)⟩⟩
              ·rw [if_neg c40] at H
               have c40b0 : (t215 == 0) = false := beq_eq_false_iff_ne.mpr c40
               have c40b1 : (t215 != 0) = true := bne_iff_ne.mpr c40
               have H' := Aside0.mk H
               clear H
               go_wp2
               go_meet
               case rel => exact ⟨_, (x3_1), (x4_1), (x5_1), (by first | rfl | (simp; done) | (simp [*]; done)), H', ⟨by have := HK1.out; have := HJ30.out; first | omega | exact Nat.le_refl _⟩, ⟨by (with_reducible repeat (first | apply Kd.R_alloc | apply Kd.R_drewN | apply Kd.R_drew)); exact Kd.R_mono HO_3.out (fun _ hk => hk.1)⟩, ⟨by (with_reducible repeat (first | apply Kd.R_alloc | apply Kd.R_drewN | apply Kd.R_drew)); exact Kd.R_mono HO_4.out (fun _ hk => hk.1)⟩, ⟨by (with_reducible repeat (first | refine blk_drewN ?_ _ | refine blk_drew ?_ | refine blk_alloc ?_ _)); exact BK202.out⟩, ⟨by repeat (first | (with_reducible first | exact HB.out | apply below_alloc | apply pw_below_drewN | apply below_drew1 | refine below_set ?_ GE202.out) | exact HB.out)⟩⟩
          ·rw [if_neg c28] at H
           have c28b0 : (((rd_T42 l0 x6_1).f0) == 1) = false := beq_eq_false_iff_ne.mpr c28
           have c28b1 : (((rd_T42 l0 x6_1).f0) != 1) = true := bne_iff_ne.mpr c28
           by_cases c41 : ((rd_T42 l0 x6_1).f0) = 2
           ·rw [if_pos c41] at H
            have c41b0 : (((rd_T42 l0 x6_1).f0) == 2) = true := beq_iff_eq.mpr c41
            have c41b1 : (((rd_T42 l0 x6_1).f0) != 2) = false := bne_eq_false_iff_eq.mpr c41
            clear c41
            replace H := Option.bind_eq_some_iff.mp H
            obtain ⟨⟨t223, t224⟩, A420, H⟩ := H
            replace H : ((coppiceref13_Punch.f k1 x4_1 x5_1 ((rd_T42 l0 x6_1).f1) ((rd_T42 l0 x6_1).f2)).bind fun bt227 => (if t224 = bt227.2 then (if t224 = 0 then (coppicelaw13_SparsePlays.j3 k1 l0 t223 bt227.1 x5_1 x6_1) else (coppicelaw13_SparsePlays.j3 k1 l0 x3_1 x4_1 x5_1 x6_1)) else (some false))) = some r := H
            have A42 := Aside0.mk A420
            clear A420
            replace H := Option.bind_eq_some_iff.mp H
            obtain ⟨⟨t227, t228⟩, A430, H⟩ := H
            replace H : (if t224 = t228 then (if t224 = 0 then (coppicelaw13_SparsePlays.j3 k1 l0 t223 t227 x5_1 x6_1) else (coppicelaw13_SparsePlays.j3 k1 l0 x3_1 x4_1 x5_1 x6_1)) else (some false)) = some r := H
            have A43 := Aside0.mk A430
            clear A430
            by_cases c44 : t224 = t228
            ·rw [if_pos c44] at H
             have c44b0 : (t224 == t228) = true := beq_iff_eq.mpr c44
             have c44b1 : (t224 != t228) = false := bne_eq_false_iff_eq.mpr c44
             clear c44
             by_cases c45 : t224 = 0
             ·rw [if_pos c45] at H
              have c45b0 : (t224 == 0) = true := beq_iff_eq.mpr c45
              have c45b1 : (t224 != 0) = false := bne_eq_false_iff_eq.mpr c45
              clear c45
              have H' := Aside0.mk H
              clear H
              have hcz46_0 : w13.cell? ⟨gb202, 0, none⟩ = some (.int .i64 0) := (blk_cell BK202.out 0).trans rfl
              have hcz46_1 : w13.cell? ⟨gb202, 1, none⟩ = some (.int .i64 0) := (blk_cell BK202.out 1).trans rfl
              have hcz46_2 : w13.cell? ⟨gb202, 2, none⟩ = some (.int .i64 0) := (blk_cell BK202.out 2).trans rfl
              have hcz46_3 : w13.cell? ⟨gb202, 3, none⟩ = some (.string (⟨#[]⟩ : ByteArray)) := (blk_cell BK202.out 3).trans rfl
              have hfz46_0 := blk_frozen BK202.out 0
              have hfz46_1 := blk_frozen BK202.out 1
              have hfz46_2 := blk_frozen BK202.out 2
              have hfz46_3 := blk_frozen BK202.out 3
              obtain ⟨Ao47, co47, eo47⟩ := Kd.R_slice HO_3.out
              subst eo47
              go_wp2_with (first | ((with_reducible refine gate_callee (f := 17) rfl ?_); refine goesL_ (some 156) rfl rfl Tryd.func17 (by kernel_rfl) rfl #[.slice Ao47 x3_1.length co47, .int .i64 x5_1, .int .i64 ((rd_T42 l0 x6_1).f1), .int .i64 ((rd_T42 l0 x6_1).f2)] rfl (by (try simp only [List.map_toArray, List.map_cons, List.map_nil]); first | done | rfl | (simp only [List.length_drop, List.length_take]; rfl)) ?_; (with_reducible refine (sparse_Punch.calls k1 _ _ x3_1 x5_1 ((rd_T42 l0 x6_1).f1) ((rd_T42 l0 x6_1).f2) t223 t224 _ ?side1 ?side2 A42.out).mono ?_); (case side1 => refine (Kd.R_reads' (e := 39) (base := w.heap.size) (ok := fun k_ => some k_ ≠ (u4 : Value).ownBlock) (n := x3_1.length) (c := co47) ?_).2.2; exact (by (with_reducible repeat (first | apply Kd.R_alloc | apply Kd.R_drewN | apply Kd.R_drew)); exact (Kd.R_mono (Kd.R_far (p := ⟨gb202, 3, none⟩) (Kd.R_far (p := ⟨gb202, 2, none⟩) (Kd.R_far (p := ⟨gb202, 1, none⟩) (Kd.R_far (p := ⟨gb202, 0, none⟩) (Kd.R_types HO_3.out BK202.out (by decide)) (fun _ hk => hk.2) (.int .i64 ((rd_T42 l0 x6_1).f0))) (fun _ hk => hk.2) (.int .i64 ((rd_T42 l0 x6_1).f1))) (fun _ hk => hk.2) (.int .i64 ((rd_T42 l0 x6_1).f2))) (fun _ hk => hk.2) (.string ((rd_T42 l0 x6_1).f3))) (fun _ h_ => h_.1)))); (case side2 => exact (Kd.R_reads' HO_3.out).2.1); rintro e w48 ⟨v225, rfl, ho0, hb⟩; refine ⟨_, rfl, ?_⟩; have n0_ := Aside0.mk (Kd.R_elder' (by (with_reducible repeat (first | apply Kd.R_alloc | apply Kd.R_drewN | apply Kd.R_drew)); exact (Kd.R_mono (Kd.R_far (p := ⟨gb202, 3, none⟩) (Kd.R_far (p := ⟨gb202, 2, none⟩) (Kd.R_far (p := ⟨gb202, 1, none⟩) (Kd.R_far (p := ⟨gb202, 0, none⟩) (Kd.R_types HO_3.out BK202.out (by decide)) (fun _ hk => hk.2) (.int .i64 ((rd_T42 l0 x6_1).f0))) (fun _ hk => hk.2) (.int .i64 ((rd_T42 l0 x6_1).f1))) (fun _ hk => hk.2) (.int .i64 ((rd_T42 l0 x6_1).f2))) (fun _ hk => hk.2) (.string ((rd_T42 l0 x6_1).f3))) (fun _ h_ => h_.1))) (Kd.R_base ho0) hb); have n1_ := Aside0.mk (Kd.R_elder' (by (with_reducible repeat (first | apply Kd.R_alloc | apply Kd.R_drewN | apply Kd.R_drew)); exact (Kd.R_mono (Kd.R_far (p := ⟨gb202, 3, none⟩) (Kd.R_far (p := ⟨gb202, 2, none⟩) (Kd.R_far (p := ⟨gb202, 1, none⟩) (Kd.R_far (p := ⟨gb202, 0, none⟩) (Kd.R_types HO_4.out BK202.out (by decide)) (fun _ hk => hk.2) (.int .i64 ((rd_T42 l0 x6_1).f0))) (fun _ hk => hk.2) (.int .i64 ((rd_T42 l0 x6_1).f1))) (fun _ hk => hk.2) (.int .i64 ((rd_T42 l0 x6_1).f2))) (fun _ hk => hk.2) (.string ((rd_T42 l0 x6_1).f3))) (fun _ h_ => h_.1))) (Kd.R_base ho0) hb); have n2_ := Aside0.mk (Kd.R_lower (Kd.R_new' (Kd.R_new' ho0 (Kd.R_lt (by (with_reducible repeat (first | apply Kd.R_alloc | apply Kd.R_drewN | apply Kd.R_drew)); exact (Kd.R_mono (Kd.R_far (p := ⟨gb202, 3, none⟩) (Kd.R_far (p := ⟨gb202, 2, none⟩) (Kd.R_far (p := ⟨gb202, 1, none⟩) (Kd.R_far (p := ⟨gb202, 0, none⟩) (Kd.R_types HO_3.out BK202.out (by decide)) (fun _ hk => hk.2) (.int .i64 ((rd_T42 l0 x6_1).f0))) (fun _ hk => hk.2) (.int .i64 ((rd_T42 l0 x6_1).f1))) (fun _ hk => hk.2) (.int .i64 ((rd_T42 l0 x6_1).f2))) (fun _ hk => hk.2) (.string ((rd_T42 l0 x6_1).f3))) (fun _ h_ => h_.1))))) (Kd.R_lt (by (with_reducible repeat (first | apply Kd.R_alloc | apply Kd.R_drewN | apply Kd.R_drew)); exact (Kd.R_mono (Kd.R_far (p := ⟨gb202, 3, none⟩) (Kd.R_far (p := ⟨gb202, 2, none⟩) (Kd.R_far (p := ⟨gb202, 1, none⟩) (Kd.R_far (p := ⟨gb202, 0, none⟩) (Kd.R_types HO_4.out BK202.out (by decide)) (fun _ hk => hk.2) (.int .i64 ((rd_T42 l0 x6_1).f0))) (fun _ hk => hk.2) (.int .i64 ((rd_T42 l0 x6_1).f1))) (fun _ hk => hk.2) (.int .i64 ((rd_T42 l0 x6_1).f2))) (fun _ hk => hk.2) (.string ((rd_T42 l0 x6_1).f3))) (fun _ h_ => h_.1))))) (below_size (by repeat (first | (with_reducible first | exact HB.out | apply below_alloc | apply pw_below_drewN | apply below_drew1 | refine below_set ?_ GE202.out) | exact HB.out)))); have n3_ := Aside0.mk (blk_below (g := gb202) (o := .cells #[.int .i64 ((rd_T42 l0 x6_1).f0), .int .i64 ((rd_T42 l0 x6_1).f1), .int .i64 ((rd_T42 l0 x6_1).f2), .string ((rd_T42 l0 x6_1).f3)] 42 (0, 0)) (by (with_reducible repeat (first | refine blk_drewN ?_ _ | refine blk_drew ?_ | refine blk_alloc ?_ _)); refine blk_put (cs := #[.int .i64 ((rd_T42 l0 x6_1).f0), .int .i64 ((rd_T42 l0 x6_1).f1), .int .i64 ((rd_T42 l0 x6_1).f2), .string (⟨#[]⟩ : ByteArray)]) ?_ 3 _ rfl; (with_reducible repeat (first | refine blk_drewN ?_ _ | refine blk_drew ?_ | refine blk_alloc ?_ _)); refine blk_put (cs := #[.int .i64 ((rd_T42 l0 x6_1).f0), .int .i64 ((rd_T42 l0 x6_1).f1), .int .i64 0, .string (⟨#[]⟩ : ByteArray)]) ?_ 2 _ rfl; (with_reducible repeat (first | refine blk_drewN ?_ _ | refine blk_drew ?_ | refine blk_alloc ?_ _)); refine blk_put (cs := #[.int .i64 ((rd_T42 l0 x6_1).f0), .int .i64 0, .int .i64 0, .string (⟨#[]⟩ : ByteArray)]) ?_ 1 _ rfl; (with_reducible repeat (first | refine blk_drewN ?_ _ | refine blk_drew ?_ | refine blk_alloc ?_ _)); refine blk_put (cs := #[.int .i64 0, .int .i64 0, .int .i64 0, .string (⟨#[]⟩ : ByteArray)]) ?_ 0 _ rfl; (with_reducible repeat (first | refine blk_drewN ?_ _ | refine blk_drew ?_ | refine blk_alloc ?_ _)); exact BK202.out) hb); have n4_ := Aside0.mk (below_step (by repeat (first | (with_reducible first | exact HB.out | apply below_alloc | apply pw_below_drewN | apply below_drew1 | refine below_set ?_ GE202.out) | exact HB.out)) hb); clear HO_3; clear HO_4; clear BK202; clear HB; have HO_3 := n0_; have HO_4 := n1_; have HO226 := n2_; have BK202 := n3_; have HB := n4_; clear n0_ n1_ n2_ n3_ n4_; (try clear hb); (try clear hb2); (try clear hk); (try clear hi); (try clear ho0); have hcz49_0 : w48.cell? ⟨gb202, 0, none⟩ = some (.int .i64 ((rd_T42 l0 x6_1).f0)) := (blk_cell BK202.out 0).trans rfl; have hcz49_1 : w48.cell? ⟨gb202, 1, none⟩ = some (.int .i64 ((rd_T42 l0 x6_1).f1)) := (blk_cell BK202.out 1).trans rfl; have hcz49_2 : w48.cell? ⟨gb202, 2, none⟩ = some (.int .i64 ((rd_T42 l0 x6_1).f2)) := (blk_cell BK202.out 2).trans rfl; have hcz49_3 : w48.cell? ⟨gb202, 3, none⟩ = some (.string ((rd_T42 l0 x6_1).f3)) := (blk_cell BK202.out 3).trans rfl; have hfz49_0 := blk_frozen BK202.out 0; have hfz49_1 := blk_frozen BK202.out 1; have hfz49_2 := blk_frozen BK202.out 2; have hfz49_3 := blk_frozen BK202.out 3; obtain ⟨Ao50, co50, eo50⟩ := Kd.R_slice HO_4.out; subst eo50) | ((with_reducible refine gate_callee (f := 21) rfl ?_); refine goesL_ (some 166) rfl rfl Tryd.func21 (by kernel_rfl) rfl #[.slice Ao50 x4_1.length co50, .int .i64 x5_1, .int .i64 ((rd_T42 l0 x6_1).f1), .int .i64 ((rd_T42 l0 x6_1).f2)] rfl (by (try simp only [List.map_toArray, List.map_cons, List.map_nil]); first | done | rfl | (simp only [List.length_drop, List.length_take]; rfl)) ?_; (with_reducible refine (coppiceref13_Punch.calls k1 _ _ x4_1 x5_1 ((rd_T42 l0 x6_1).f1) ((rd_T42 l0 x6_1).f2) t227 t228 _ ?side1 ?side2 A43.out).mono ?_); (case side1 => repeat (first | exact (Kd.R_reads' HO_4.out).2.2 | (with_reducible refine Kd.C_alloc ?_ _) | (with_reducible refine Kd.C_drewN ?_ _) | (with_reducible refine Kd.C_drew ?_))); (case side2 => exact (Kd.R_reads' HO_4.out).2.1); rintro e w51 ⟨v229, rfl, ho0, hb⟩; refine ⟨_, rfl, ?_⟩; have n0_ := Aside0.mk (Kd.R_elder' (by (with_reducible repeat (first | apply Kd.R_alloc | apply Kd.R_drewN | apply Kd.R_drew)); exact HO_3.out) (Kd.R_base ho0) hb); have n1_ := Aside0.mk (Kd.R_elder' (by (with_reducible repeat (first | apply Kd.R_alloc | apply Kd.R_drewN | apply Kd.R_drew)); exact HO_4.out) (Kd.R_base ho0) hb); have n2_ := Aside0.mk (Kd.R_elder' (by (with_reducible repeat (first | apply Kd.R_alloc | apply Kd.R_drewN | apply Kd.R_drew)); exact HO226.out) (Kd.R_base ho0) hb); have n3_ := Aside0.mk (Kd.R_lower (Kd.R_new' (Kd.R_new' (Kd.R_new' ho0 (Kd.R_lt (by (with_reducible repeat (first | apply Kd.R_alloc | apply Kd.R_drewN | apply Kd.R_drew)); exact HO_3.out))) (Kd.R_lt (by (with_reducible repeat (first | apply Kd.R_alloc | apply Kd.R_drewN | apply Kd.R_drew)); exact HO_4.out))) (Kd.R_lt (by (with_reducible repeat (first | apply Kd.R_alloc | apply Kd.R_drewN | apply Kd.R_drew)); exact HO226.out))) (below_size (by repeat (first | (with_reducible first | exact HB.out | apply below_alloc | apply pw_below_drewN | apply below_drew1 | refine below_set ?_ GE202.out) | exact HB.out)))); have n4_ := Aside0.mk (blk_below (g := gb202) (o := .cells #[.int .i64 ((rd_T42 l0 x6_1).f0), .int .i64 ((rd_T42 l0 x6_1).f1), .int .i64 ((rd_T42 l0 x6_1).f2), .string ((rd_T42 l0 x6_1).f3)] 42 (0, 0)) (by (with_reducible repeat (first | refine blk_drewN ?_ _ | refine blk_drew ?_ | refine blk_alloc ?_ _)); exact BK202.out) hb); have n5_ := Aside0.mk (below_step (by repeat (first | (with_reducible first | exact HB.out | apply below_alloc | apply pw_below_drewN | apply below_drew1 | refine below_set ?_ GE202.out) | exact HB.out)) hb); clear HO_3; clear HO_4; clear HO226; clear BK202; clear HB; have HO_3 := n0_; have HO_4 := n1_; have HO226 := n2_; have HO230 := n3_; have BK202 := n4_; have HB := n5_; clear n0_ n1_ n2_ n3_ n4_ n5_; (try clear hb); (try clear hb2); (try clear hk); (try clear hi); (try clear ho0)))
              go_meet
              case rel => exact ⟨_, (t223), (t227), (x5_1), (by first | rfl | (simp; done) | (simp [*]; done)), H', ⟨by have := HK1.out; first | omega | exact Nat.le_refl _⟩, ⟨by (with_reducible repeat (first | apply Kd.R_alloc | apply Kd.R_drewN | apply Kd.R_drew)); exact Kd.R_mono HO226.out (fun _ hk => hk.2)⟩, ⟨by (with_reducible repeat (first | apply Kd.R_alloc | apply Kd.R_drewN | apply Kd.R_drew)); exact Kd.R_mono HO230.out (fun _ hk => hk.2)⟩, ⟨by (with_reducible repeat (first | refine blk_drewN ?_ _ | refine blk_drew ?_ | refine blk_alloc ?_ _)); exact BK202.out⟩, ⟨by repeat (first | (with_reducible first | exact HB.out | apply below_alloc | apply pw_below_drewN | apply below_drew1 | refine below_set ?_ GE202.out) | exact HB.out)⟩⟩
             ·rw [if_neg c45] at H
              have c45b0 : (t224 == 0) = false := beq_eq_false_iff_ne.mpr c45
              have c45b1 : (t224 != 0) = true := bne_iff_ne.mpr c45
              have H' := Aside0.mk H
              clear H
              have hcz52_0 : w13.cell? ⟨gb202, 0, none⟩ = some (.int .i64 0) := (blk_cell BK202.out 0).trans rfl
              have hcz52_1 : w13.cell? ⟨gb202, 1, none⟩ = some (.int .i64 0) := (blk_cell BK202.out 1).trans rfl
              have hcz52_2 : w13.cell? ⟨gb202, 2, none⟩ = some (.int .i64 0) := (blk_cell BK202.out 2).trans rfl
              have hcz52_3 : w13.cell? ⟨gb202, 3, none⟩ = some (.string (⟨#[]⟩ : ByteArray)) := (blk_cell BK202.out 3).trans rfl
              have hfz52_0 := blk_frozen BK202.out 0
              have hfz52_1 := blk_frozen BK202.out 1
              have hfz52_2 := blk_frozen BK202.out 2
              have hfz52_3 := blk_frozen BK202.out 3
              obtain ⟨Ao53, co53, eo53⟩ := Kd.R_slice HO_3.out
              subst eo53
              go_wp2_with (first | ((with_reducible refine gate_callee (f := 17) rfl ?_); refine goesL_ (some 156) rfl rfl Tryd.func17 (by kernel_rfl) rfl #[.slice Ao53 x3_1.length co53, .int .i64 x5_1, .int .i64 ((rd_T42 l0 x6_1).f1), .int .i64 ((rd_T42 l0 x6_1).f2)] rfl (by (try simp only [List.map_toArray, List.map_cons, List.map_nil]); first | done | rfl | (simp only [List.length_drop, List.length_take]; rfl)) ?_; (with_reducible refine (sparse_Punch.calls k1 _ _ x3_1 x5_1 ((rd_T42 l0 x6_1).f1) ((rd_T42 l0 x6_1).f2) t223 t224 _ ?side1 ?side2 A42.out).mono ?_); (case side1 => refine (Kd.R_reads' (e := 39) (base := w.heap.size) (ok := fun k_ => some k_ ≠ (u4 : Value).ownBlock) (n := x3_1.length) (c := co53) ?_).2.2; exact (by (with_reducible repeat (first | apply Kd.R_alloc | apply Kd.R_drewN | apply Kd.R_drew)); exact (Kd.R_mono (Kd.R_far (p := ⟨gb202, 3, none⟩) (Kd.R_far (p := ⟨gb202, 2, none⟩) (Kd.R_far (p := ⟨gb202, 1, none⟩) (Kd.R_far (p := ⟨gb202, 0, none⟩) (Kd.R_types HO_3.out BK202.out (by decide)) (fun _ hk => hk.2) (.int .i64 ((rd_T42 l0 x6_1).f0))) (fun _ hk => hk.2) (.int .i64 ((rd_T42 l0 x6_1).f1))) (fun _ hk => hk.2) (.int .i64 ((rd_T42 l0 x6_1).f2))) (fun _ hk => hk.2) (.string ((rd_T42 l0 x6_1).f3))) (fun _ h_ => h_.1)))); (case side2 => exact (Kd.R_reads' HO_3.out).2.1); rintro e w54 ⟨v225, rfl, ho0, hb⟩; refine ⟨_, rfl, ?_⟩; have n0_ := Aside0.mk (Kd.R_elder' (by (with_reducible repeat (first | apply Kd.R_alloc | apply Kd.R_drewN | apply Kd.R_drew)); exact (Kd.R_mono (Kd.R_far (p := ⟨gb202, 3, none⟩) (Kd.R_far (p := ⟨gb202, 2, none⟩) (Kd.R_far (p := ⟨gb202, 1, none⟩) (Kd.R_far (p := ⟨gb202, 0, none⟩) (Kd.R_types HO_3.out BK202.out (by decide)) (fun _ hk => hk.2) (.int .i64 ((rd_T42 l0 x6_1).f0))) (fun _ hk => hk.2) (.int .i64 ((rd_T42 l0 x6_1).f1))) (fun _ hk => hk.2) (.int .i64 ((rd_T42 l0 x6_1).f2))) (fun _ hk => hk.2) (.string ((rd_T42 l0 x6_1).f3))) (fun _ h_ => h_.1))) (Kd.R_base ho0) hb); have n1_ := Aside0.mk (Kd.R_elder' (by (with_reducible repeat (first | apply Kd.R_alloc | apply Kd.R_drewN | apply Kd.R_drew)); exact (Kd.R_mono (Kd.R_far (p := ⟨gb202, 3, none⟩) (Kd.R_far (p := ⟨gb202, 2, none⟩) (Kd.R_far (p := ⟨gb202, 1, none⟩) (Kd.R_far (p := ⟨gb202, 0, none⟩) (Kd.R_types HO_4.out BK202.out (by decide)) (fun _ hk => hk.2) (.int .i64 ((rd_T42 l0 x6_1).f0))) (fun _ hk => hk.2) (.int .i64 ((rd_T42 l0 x6_1).f1))) (fun _ hk => hk.2) (.int .i64 ((rd_T42 l0 x6_1).f2))) (fun _ hk => hk.2) (.string ((rd_T42 l0 x6_1).f3))) (fun _ h_ => h_.1))) (Kd.R_base ho0) hb); have n2_ := Aside0.mk (Kd.R_lower (Kd.R_new' (Kd.R_new' ho0 (Kd.R_lt (by (with_reducible repeat (first | apply Kd.R_alloc | apply Kd.R_drewN | apply Kd.R_drew)); exact (Kd.R_mono (Kd.R_far (p := ⟨gb202, 3, none⟩) (Kd.R_far (p := ⟨gb202, 2, none⟩) (Kd.R_far (p := ⟨gb202, 1, none⟩) (Kd.R_far (p := ⟨gb202, 0, none⟩) (Kd.R_types HO_3.out BK202.out (by decide)) (fun _ hk => hk.2) (.int .i64 ((rd_T42 l0 x6_1).f0))) (fun _ hk => hk.2) (.int .i64 ((rd_T42 l0 x6_1).f1))) (fun _ hk => hk.2) (.int .i64 ((rd_T42 l0 x6_1).f2))) (fun _ hk => hk.2) (.string ((rd_T42 l0 x6_1).f3))) (fun _ h_ => h_.1))))) (Kd.R_lt (by (with_reducible repeat (first | apply Kd.R_alloc | apply Kd.R_drewN | apply Kd.R_drew)); exact (Kd.R_mono (Kd.R_far (p := ⟨gb202, 3, none⟩) (Kd.R_far (p := ⟨gb202, 2, none⟩) (Kd.R_far (p := ⟨gb202, 1, none⟩) (Kd.R_far (p := ⟨gb202, 0, none⟩) (Kd.R_types HO_4.out BK202.out (by decide)) (fun _ hk => hk.2) (.int .i64 ((rd_T42 l0 x6_1).f0))) (fun _ hk => hk.2) (.int .i64 ((rd_T42 l0 x6_1).f1))) (fun _ hk => hk.2) (.int .i64 ((rd_T42 l0 x6_1).f2))) (fun _ hk => hk.2) (.string ((rd_T42 l0 x6_1).f3))) (fun _ h_ => h_.1))))) (below_size (by repeat (first | (with_reducible first | exact HB.out | apply below_alloc | apply pw_below_drewN | apply below_drew1 | refine below_set ?_ GE202.out) | exact HB.out)))); have n3_ := Aside0.mk (blk_below (g := gb202) (o := .cells #[.int .i64 ((rd_T42 l0 x6_1).f0), .int .i64 ((rd_T42 l0 x6_1).f1), .int .i64 ((rd_T42 l0 x6_1).f2), .string ((rd_T42 l0 x6_1).f3)] 42 (0, 0)) (by (with_reducible repeat (first | refine blk_drewN ?_ _ | refine blk_drew ?_ | refine blk_alloc ?_ _)); refine blk_put (cs := #[.int .i64 ((rd_T42 l0 x6_1).f0), .int .i64 ((rd_T42 l0 x6_1).f1), .int .i64 ((rd_T42 l0 x6_1).f2), .string (⟨#[]⟩ : ByteArray)]) ?_ 3 _ rfl; (with_reducible repeat (first | refine blk_drewN ?_ _ | refine blk_drew ?_ | refine blk_alloc ?_ _)); refine blk_put (cs := #[.int .i64 ((rd_T42 l0 x6_1).f0), .int .i64 ((rd_T42 l0 x6_1).f1), .int .i64 0, .string (⟨#[]⟩ : ByteArray)]) ?_ 2 _ rfl; (with_reducible repeat (first | refine blk_drewN ?_ _ | refine blk_drew ?_ | refine blk_alloc ?_ _)); refine blk_put (cs := #[.int .i64 ((rd_T42 l0 x6_1).f0), .int .i64 0, .int .i64 0, .string (⟨#[]⟩ : ByteArray)]) ?_ 1 _ rfl; (with_reducible repeat (first | refine blk_drewN ?_ _ | refine blk_drew ?_ | refine blk_alloc ?_ _)); refine blk_put (cs := #[.int .i64 0, .int .i64 0, .int .i64 0, .string (⟨#[]⟩ : ByteArray)]) ?_ 0 _ rfl; (with_reducible repeat (first | refine blk_drewN ?_ _ | refine blk_drew ?_ | refine blk_alloc ?_ _)); exact BK202.out) hb); have n4_ := Aside0.mk (below_step (by repeat (first | (with_reducible first | exact HB.out | apply below_alloc | apply pw_below_drewN | apply below_drew1 | refine below_set ?_ GE202.out) | exact HB.out)) hb); clear HO_3; clear HO_4; clear BK202; clear HB; have HO_3 := n0_; have HO_4 := n1_; have HO226 := n2_; have BK202 := n3_; have HB := n4_; clear n0_ n1_ n2_ n3_ n4_; (try clear hb); (try clear hb2); (try clear hk); (try clear hi); (try clear ho0); have hcz55_0 : w54.cell? ⟨gb202, 0, none⟩ = some (.int .i64 ((rd_T42 l0 x6_1).f0)) := (blk_cell BK202.out 0).trans rfl; have hcz55_1 : w54.cell? ⟨gb202, 1, none⟩ = some (.int .i64 ((rd_T42 l0 x6_1).f1)) := (blk_cell BK202.out 1).trans rfl; have hcz55_2 : w54.cell? ⟨gb202, 2, none⟩ = some (.int .i64 ((rd_T42 l0 x6_1).f2)) := (blk_cell BK202.out 2).trans rfl; have hcz55_3 : w54.cell? ⟨gb202, 3, none⟩ = some (.string ((rd_T42 l0 x6_1).f3)) := (blk_cell BK202.out 3).trans rfl; have hfz55_0 := blk_frozen BK202.out 0; have hfz55_1 := blk_frozen BK202.out 1; have hfz55_2 := blk_frozen BK202.out 2; have hfz55_3 := blk_frozen BK202.out 3; obtain ⟨Ao56, co56, eo56⟩ := Kd.R_slice HO_4.out; subst eo56) | ((with_reducible refine gate_callee (f := 21) rfl ?_); refine goesL_ (some 166) rfl rfl Tryd.func21 (by kernel_rfl) rfl #[.slice Ao56 x4_1.length co56, .int .i64 x5_1, .int .i64 ((rd_T42 l0 x6_1).f1), .int .i64 ((rd_T42 l0 x6_1).f2)] rfl (by (try simp only [List.map_toArray, List.map_cons, List.map_nil]); first | done | rfl | (simp only [List.length_drop, List.length_take]; rfl)) ?_; (with_reducible refine (coppiceref13_Punch.calls k1 _ _ x4_1 x5_1 ((rd_T42 l0 x6_1).f1) ((rd_T42 l0 x6_1).f2) t227 t228 _ ?side1 ?side2 A43.out).mono ?_); (case side1 => repeat (first | exact (Kd.R_reads' HO_4.out).2.2 | (with_reducible refine Kd.C_alloc ?_ _) | (with_reducible refine Kd.C_drewN ?_ _) | (with_reducible refine Kd.C_drew ?_))); (case side2 => exact (Kd.R_reads' HO_4.out).2.1); rintro e w57 ⟨v229, rfl, ho0, hb⟩; refine ⟨_, rfl, ?_⟩; have n0_ := Aside0.mk (Kd.R_elder' (by (with_reducible repeat (first | apply Kd.R_alloc | apply Kd.R_drewN | apply Kd.R_drew)); exact HO_3.out) (Kd.R_base ho0) hb); have n1_ := Aside0.mk (Kd.R_elder' (by (with_reducible repeat (first | apply Kd.R_alloc | apply Kd.R_drewN | apply Kd.R_drew)); exact HO_4.out) (Kd.R_base ho0) hb); have n2_ := Aside0.mk (Kd.R_elder' (by (with_reducible repeat (first | apply Kd.R_alloc | apply Kd.R_drewN | apply Kd.R_drew)); exact HO226.out) (Kd.R_base ho0) hb); have n3_ := Aside0.mk (Kd.R_lower (Kd.R_new' (Kd.R_new' (Kd.R_new' ho0 (Kd.R_lt (by (with_reducible repeat (first | apply Kd.R_alloc | apply Kd.R_drewN | apply Kd.R_drew)); exact HO_3.out))) (Kd.R_lt (by (with_reducible repeat (first | apply Kd.R_alloc | apply Kd.R_drewN | apply Kd.R_drew)); exact HO_4.out))) (Kd.R_lt (by (with_reducible repeat (first | apply Kd.R_alloc | apply Kd.R_drewN | apply Kd.R_drew)); exact HO226.out))) (below_size (by repeat (first | (with_reducible first | exact HB.out | apply below_alloc | apply pw_below_drewN | apply below_drew1 | refine below_set ?_ GE202.out) | exact HB.out)))); have n4_ := Aside0.mk (blk_below (g := gb202) (o := .cells #[.int .i64 ((rd_T42 l0 x6_1).f0), .int .i64 ((rd_T42 l0 x6_1).f1), .int .i64 ((rd_T42 l0 x6_1).f2), .string ((rd_T42 l0 x6_1).f3)] 42 (0, 0)) (by (with_reducible repeat (first | refine blk_drewN ?_ _ | refine blk_drew ?_ | refine blk_alloc ?_ _)); exact BK202.out) hb); have n5_ := Aside0.mk (below_step (by repeat (first | (with_reducible first | exact HB.out | apply below_alloc | apply pw_below_drewN | apply below_drew1 | refine below_set ?_ GE202.out) | exact HB.out)) hb); clear HO_3; clear HO_4; clear HO226; clear BK202; clear HB; have HO_3 := n0_; have HO_4 := n1_; have HO226 := n2_; have HO230 := n3_; have BK202 := n4_; have HB := n5_; clear n0_ n1_ n2_ n3_ n4_ n5_; (try clear hb); (try clear hb2); (try clear hk); (try clear hi); (try clear ho0)))
              go_meet
              case rel => exact ⟨_, (x3_1), (x4_1), (x5_1), (by first | rfl | (simp; done) | (simp [*]; done)), H', ⟨by have := HK1.out; first | omega | exact Nat.le_refl _⟩, ⟨by (with_reducible repeat (first | apply Kd.R_alloc | apply Kd.R_drewN | apply Kd.R_drew)); exact Kd.R_mono HO_3.out (fun _ hk => hk.1.1)⟩, ⟨by (with_reducible repeat (first | apply Kd.R_alloc | apply Kd.R_drewN | apply Kd.R_drew)); exact Kd.R_mono HO_4.out (fun _ hk => hk.1.1)⟩, ⟨by (with_reducible repeat (first | refine blk_drewN ?_ _ | refine blk_drew ?_ | refine blk_alloc ?_ _)); exact BK202.out⟩, ⟨by repeat (first | (with_reducible first | exact HB.out | apply below_alloc | apply pw_below_drewN | apply below_drew1 | refine below_set ?_ GE202.out) | exact HB.out)⟩⟩
            ·rw [if_neg c44] at H
             have c44b0 : (t224 == t228) = false := beq_eq_false_iff_ne.mpr c44
             have c44b1 : (t224 != t228) = true := bne_iff_ne.mpr c44
             obtain rfl := Option.some.inj H
             have hcz58_0 : w13.cell? ⟨gb202, 0, none⟩ = some (.int .i64 0) := (blk_cell BK202.out 0).trans rfl
             have hcz58_1 : w13.cell? ⟨gb202, 1, none⟩ = some (.int .i64 0) := (blk_cell BK202.out 1).trans rfl
             have hcz58_2 : w13.cell? ⟨gb202, 2, none⟩ = some (.int .i64 0) := (blk_cell BK202.out 2).trans rfl
             have hcz58_3 : w13.cell? ⟨gb202, 3, none⟩ = some (.string (⟨#[]⟩ : ByteArray)) := (blk_cell BK202.out 3).trans rfl
             have hfz58_0 := blk_frozen BK202.out 0
             have hfz58_1 := blk_frozen BK202.out 1
             have hfz58_2 := blk_frozen BK202.out 2
             have hfz58_3 := blk_frozen BK202.out 3
             obtain ⟨Ao59, co59, eo59⟩ := Kd.R_slice HO_3.out
             subst eo59
             go_wp2_with (first | ((with_reducible refine gate_callee (f := 17) rfl ?_); refine goesL_ (some 156) rfl rfl Tryd.func17 (by kernel_rfl) rfl #[.slice Ao59 x3_1.length co59, .int .i64 x5_1, .int .i64 ((rd_T42 l0 x6_1).f1), .int .i64 ((rd_T42 l0 x6_1).f2)] rfl (by (try simp only [List.map_toArray, List.map_cons, List.map_nil]); first | done | rfl | (simp only [List.length_drop, List.length_take]; rfl)) ?_; (with_reducible refine (sparse_Punch.calls k1 _ _ x3_1 x5_1 ((rd_T42 l0 x6_1).f1) ((rd_T42 l0 x6_1).f2) t223 t224 _ ?side1 ?side2 A42.out).mono ?_); (case side1 => refine (Kd.R_reads' (e := 39) (base := w.heap.size) (ok := fun k_ => some k_ ≠ (u4 : Value).ownBlock) (n := x3_1.length) (c := co59) ?_).2.2; exact (by (with_reducible repeat (first | apply Kd.R_alloc | apply Kd.R_drewN | apply Kd.R_drew)); exact (Kd.R_mono (Kd.R_far (p := ⟨gb202, 3, none⟩) (Kd.R_far (p := ⟨gb202, 2, none⟩) (Kd.R_far (p := ⟨gb202, 1, none⟩) (Kd.R_far (p := ⟨gb202, 0, none⟩) (Kd.R_types HO_3.out BK202.out (by decide)) (fun _ hk => hk.2) (.int .i64 ((rd_T42 l0 x6_1).f0))) (fun _ hk => hk.2) (.int .i64 ((rd_T42 l0 x6_1).f1))) (fun _ hk => hk.2) (.int .i64 ((rd_T42 l0 x6_1).f2))) (fun _ hk => hk.2) (.string ((rd_T42 l0 x6_1).f3))) (fun _ h_ => h_.1)))); (case side2 => exact (Kd.R_reads' HO_3.out).2.1); rintro e w60 ⟨v225, rfl, ho0, hb⟩; refine ⟨_, rfl, ?_⟩; have n0_ := Aside0.mk (Kd.R_elder' (by (with_reducible repeat (first | apply Kd.R_alloc | apply Kd.R_drewN | apply Kd.R_drew)); exact (Kd.R_mono (Kd.R_far (p := ⟨gb202, 3, none⟩) (Kd.R_far (p := ⟨gb202, 2, none⟩) (Kd.R_far (p := ⟨gb202, 1, none⟩) (Kd.R_far (p := ⟨gb202, 0, none⟩) (Kd.R_types HO_3.out BK202.out (by decide)) (fun _ hk => hk.2) (.int .i64 ((rd_T42 l0 x6_1).f0))) (fun _ hk => hk.2) (.int .i64 ((rd_T42 l0 x6_1).f1))) (fun _ hk => hk.2) (.int .i64 ((rd_T42 l0 x6_1).f2))) (fun _ hk => hk.2) (.string ((rd_T42 l0 x6_1).f3))) (fun _ h_ => h_.1))) (Kd.R_base ho0) hb); have n1_ := Aside0.mk (Kd.R_elder' (by (with_reducible repeat (first | apply Kd.R_alloc | apply Kd.R_drewN | apply Kd.R_drew)); exact (Kd.R_mono (Kd.R_far (p := ⟨gb202, 3, none⟩) (Kd.R_far (p := ⟨gb202, 2, none⟩) (Kd.R_far (p := ⟨gb202, 1, none⟩) (Kd.R_far (p := ⟨gb202, 0, none⟩) (Kd.R_types HO_4.out BK202.out (by decide)) (fun _ hk => hk.2) (.int .i64 ((rd_T42 l0 x6_1).f0))) (fun _ hk => hk.2) (.int .i64 ((rd_T42 l0 x6_1).f1))) (fun _ hk => hk.2) (.int .i64 ((rd_T42 l0 x6_1).f2))) (fun _ hk => hk.2) (.string ((rd_T42 l0 x6_1).f3))) (fun _ h_ => h_.1))) (Kd.R_base ho0) hb); have n2_ := Aside0.mk (Kd.R_lower (Kd.R_new' (Kd.R_new' ho0 (Kd.R_lt (by (with_reducible repeat (first | apply Kd.R_alloc | apply Kd.R_drewN | apply Kd.R_drew)); exact (Kd.R_mono (Kd.R_far (p := ⟨gb202, 3, none⟩) (Kd.R_far (p := ⟨gb202, 2, none⟩) (Kd.R_far (p := ⟨gb202, 1, none⟩) (Kd.R_far (p := ⟨gb202, 0, none⟩) (Kd.R_types HO_3.out BK202.out (by decide)) (fun _ hk => hk.2) (.int .i64 ((rd_T42 l0 x6_1).f0))) (fun _ hk => hk.2) (.int .i64 ((rd_T42 l0 x6_1).f1))) (fun _ hk => hk.2) (.int .i64 ((rd_T42 l0 x6_1).f2))) (fun _ hk => hk.2) (.string ((rd_T42 l0 x6_1).f3))) (fun _ h_ => h_.1))))) (Kd.R_lt (by (with_reducible repeat (first | apply Kd.R_alloc | apply Kd.R_drewN | apply Kd.R_drew)); exact (Kd.R_mono (Kd.R_far (p := ⟨gb202, 3, none⟩) (Kd.R_far (p := ⟨gb202, 2, none⟩) (Kd.R_far (p := ⟨gb202, 1, none⟩) (Kd.R_far (p := ⟨gb202, 0, none⟩) (Kd.R_types HO_4.out BK202.out (by decide)) (fun _ hk => hk.2) (.int .i64 ((rd_T42 l0 x6_1).f0))) (fun _ hk => hk.2) (.int .i64 ((rd_T42 l0 x6_1).f1))) (fun _ hk => hk.2) (.int .i64 ((rd_T42 l0 x6_1).f2))) (fun _ hk => hk.2) (.string ((rd_T42 l0 x6_1).f3))) (fun _ h_ => h_.1))))) (below_size (by repeat (first | (with_reducible first | exact HB.out | apply below_alloc | apply pw_below_drewN | apply below_drew1 | refine below_set ?_ GE202.out) | exact HB.out)))); have n3_ := Aside0.mk (blk_below (g := gb202) (o := .cells #[.int .i64 ((rd_T42 l0 x6_1).f0), .int .i64 ((rd_T42 l0 x6_1).f1), .int .i64 ((rd_T42 l0 x6_1).f2), .string ((rd_T42 l0 x6_1).f3)] 42 (0, 0)) (by (with_reducible repeat (first | refine blk_drewN ?_ _ | refine blk_drew ?_ | refine blk_alloc ?_ _)); refine blk_put (cs := #[.int .i64 ((rd_T42 l0 x6_1).f0), .int .i64 ((rd_T42 l0 x6_1).f1), .int .i64 ((rd_T42 l0 x6_1).f2), .string (⟨#[]⟩ : ByteArray)]) ?_ 3 _ rfl; (with_reducible repeat (first | refine blk_drewN ?_ _ | refine blk_drew ?_ | refine blk_alloc ?_ _)); refine blk_put (cs := #[.int .i64 ((rd_T42 l0 x6_1).f0), .int .i64 ((rd_T42 l0 x6_1).f1), .int .i64 0, .string (⟨#[]⟩ : ByteArray)]) ?_ 2 _ rfl; (with_reducible repeat (first | refine blk_drewN ?_ _ | refine blk_drew ?_ | refine blk_alloc ?_ _)); refine blk_put (cs := #[.int .i64 ((rd_T42 l0 x6_1).f0), .int .i64 0, .int .i64 0, .string (⟨#[]⟩ : ByteArray)]) ?_ 1 _ rfl; (with_reducible repeat (first | refine blk_drewN ?_ _ | refine blk_drew ?_ | refine blk_alloc ?_ _)); refine blk_put (cs := #[.int .i64 0, .int .i64 0, .int .i64 0, .string (⟨#[]⟩ : ByteArray)]) ?_ 0 _ rfl; (with_reducible repeat (first | refine blk_drewN ?_ _ | refine blk_drew ?_ | refine blk_alloc ?_ _)); exact BK202.out) hb); have n4_ := Aside0.mk (below_step (by repeat (first | (with_reducible first | exact HB.out | apply below_alloc | apply pw_below_drewN | apply below_drew1 | refine below_set ?_ GE202.out) | exact HB.out)) hb); clear HO_3; clear HO_4; clear BK202; clear HB; have HO_3 := n0_; have HO_4 := n1_; have HO226 := n2_; have BK202 := n3_; have HB := n4_; clear n0_ n1_ n2_ n3_ n4_; (try clear hb); (try clear hb2); (try clear hk); (try clear hi); (try clear ho0); have hcz61_0 : w60.cell? ⟨gb202, 0, none⟩ = some (.int .i64 ((rd_T42 l0 x6_1).f0)) := (blk_cell BK202.out 0).trans rfl; have hcz61_1 : w60.cell? ⟨gb202, 1, none⟩ = some (.int .i64 ((rd_T42 l0 x6_1).f1)) := (blk_cell BK202.out 1).trans rfl; have hcz61_2 : w60.cell? ⟨gb202, 2, none⟩ = some (.int .i64 ((rd_T42 l0 x6_1).f2)) := (blk_cell BK202.out 2).trans rfl; have hcz61_3 : w60.cell? ⟨gb202, 3, none⟩ = some (.string ((rd_T42 l0 x6_1).f3)) := (blk_cell BK202.out 3).trans rfl; have hfz61_0 := blk_frozen BK202.out 0; have hfz61_1 := blk_frozen BK202.out 1; have hfz61_2 := blk_frozen BK202.out 2; have hfz61_3 := blk_frozen BK202.out 3; obtain ⟨Ao62, co62, eo62⟩ := Kd.R_slice HO_4.out; subst eo62) | ((with_reducible refine gate_callee (f := 21) rfl ?_); refine goesL_ (some 166) rfl rfl Tryd.func21 (by kernel_rfl) rfl #[.slice Ao62 x4_1.length co62, .int .i64 x5_1, .int .i64 ((rd_T42 l0 x6_1).f1), .int .i64 ((rd_T42 l0 x6_1).f2)] rfl (by (try simp only [List.map_toArray, List.map_cons, List.map_nil]); first | done | rfl | (simp only [List.length_drop, List.length_take]; rfl)) ?_; (with_reducible refine (coppiceref13_Punch.calls k1 _ _ x4_1 x5_1 ((rd_T42 l0 x6_1).f1) ((rd_T42 l0 x6_1).f2) t227 t228 _ ?side1 ?side2 A43.out).mono ?_); (case side1 => repeat (first | exact (Kd.R_reads' HO_4.out).2.2 | (with_reducible refine Kd.C_alloc ?_ _) | (with_reducible refine Kd.C_drewN ?_ _) | (with_reducible refine Kd.C_drew ?_))); (case side2 => exact (Kd.R_reads' HO_4.out).2.1); rintro e w63 ⟨v229, rfl, ho0, hb⟩; refine ⟨_, rfl, ?_⟩; have n0_ := Aside0.mk (Kd.R_elder' (by (with_reducible repeat (first | apply Kd.R_alloc | apply Kd.R_drewN | apply Kd.R_drew)); exact HO_3.out) (Kd.R_base ho0) hb); have n1_ := Aside0.mk (Kd.R_elder' (by (with_reducible repeat (first | apply Kd.R_alloc | apply Kd.R_drewN | apply Kd.R_drew)); exact HO_4.out) (Kd.R_base ho0) hb); have n2_ := Aside0.mk (Kd.R_elder' (by (with_reducible repeat (first | apply Kd.R_alloc | apply Kd.R_drewN | apply Kd.R_drew)); exact HO226.out) (Kd.R_base ho0) hb); have n3_ := Aside0.mk (Kd.R_lower (Kd.R_new' (Kd.R_new' (Kd.R_new' ho0 (Kd.R_lt (by (with_reducible repeat (first | apply Kd.R_alloc | apply Kd.R_drewN | apply Kd.R_drew)); exact HO_3.out))) (Kd.R_lt (by (with_reducible repeat (first | apply Kd.R_alloc | apply Kd.R_drewN | apply Kd.R_drew)); exact HO_4.out))) (Kd.R_lt (by (with_reducible repeat (first | apply Kd.R_alloc | apply Kd.R_drewN | apply Kd.R_drew)); exact HO226.out))) (below_size (by repeat (first | (with_reducible first | exact HB.out | apply below_alloc | apply pw_below_drewN | apply below_drew1 | refine below_set ?_ GE202.out) | exact HB.out)))); have n4_ := Aside0.mk (blk_below (g := gb202) (o := .cells #[.int .i64 ((rd_T42 l0 x6_1).f0), .int .i64 ((rd_T42 l0 x6_1).f1), .int .i64 ((rd_T42 l0 x6_1).f2), .string ((rd_T42 l0 x6_1).f3)] 42 (0, 0)) (by (with_reducible repeat (first | refine blk_drewN ?_ _ | refine blk_drew ?_ | refine blk_alloc ?_ _)); exact BK202.out) hb); have n5_ := Aside0.mk (below_step (by repeat (first | (with_reducible first | exact HB.out | apply below_alloc | apply pw_below_drewN | apply below_drew1 | refine below_set ?_ GE202.out) | exact HB.out)) hb); clear HO_3; clear HO_4; clear HO226; clear BK202; clear HB; have HO_3 := n0_; have HO_4 := n1_; have HO226 := n2_; have HO230 := n3_; have BK202 := n4_; have HB := n5_; clear n0_ n1_ n2_ n3_ n4_ n5_; (try clear hb); (try clear hb2); (try clear hk); (try clear hi); (try clear ho0)))
             go_ret
             exact ⟨by first | rfl | (simp [errW_none, errW_some] <;> rfl) | (simp [*, errW_none, errW_some] <;> rfl), by repeat (first | (with_reducible first | exact HB.out | apply below_alloc | apply pw_below_drewN | apply below_drew1 | refine below_set ?_ GE202.out) | exact HB.out)⟩
           ·rw [if_neg c41] at H
            have c41b0 : (((rd_T42 l0 x6_1).f0) == 2) = false := beq_eq_false_iff_ne.mpr c41
            have c41b1 : (((rd_T42 l0 x6_1).f0) != 2) = true := bne_iff_ne.mpr c41
            replace H := Option.bind_eq_some_iff.mp H
            obtain ⟨⟨t231, t232⟩, A640, H⟩ := H
            replace H : ((coppiceref13_Read.f k1 x4_1 x5_1 ((rd_T42 l0 x6_1).f1) ((rd_T42 l0 x6_1).f2)).bind fun bt233 => (if t231.toList = bt233.1.toList then (if t232 = bt233.2 then (coppicelaw13_SparsePlays.j3 k1 l0 x3_1 x4_1 x5_1 x6_1) else (some false)) else (some false))) = some r := H
            have A64 := Aside0.mk A640
            clear A640
            replace H := Option.bind_eq_some_iff.mp H
            obtain ⟨⟨t233, t234⟩, A650, H⟩ := H
            replace H : (if t231.toList = t233.toList then (if t232 = t234 then (coppicelaw13_SparsePlays.j3 k1 l0 x3_1 x4_1 x5_1 x6_1) else (some false)) else (some false)) = some r := H
            have A65 := Aside0.mk A650
            clear A650
            by_cases c66 : t231.toList = t233.toList
            ·rw [if_pos c66] at H
             have c66b0 : (t231.toList == t233.toList) = true := beq_iff_eq.mpr c66
             have c66b1 : (t231.toList != t233.toList) = false := bne_eq_false_iff_eq.mpr c66
             clear c66
             by_cases c67 : t232 = t234
             ·rw [if_pos c67] at H
              have c67b0 : (t232 == t234) = true := beq_iff_eq.mpr c67
              have c67b1 : (t232 != t234) = false := bne_eq_false_iff_eq.mpr c67
              clear c67
              have H' := Aside0.mk H
              clear H
              have hcz68_0 : w13.cell? ⟨gb202, 0, none⟩ = some (.int .i64 0) := (blk_cell BK202.out 0).trans rfl
              have hcz68_1 : w13.cell? ⟨gb202, 1, none⟩ = some (.int .i64 0) := (blk_cell BK202.out 1).trans rfl
              have hcz68_2 : w13.cell? ⟨gb202, 2, none⟩ = some (.int .i64 0) := (blk_cell BK202.out 2).trans rfl
              have hcz68_3 : w13.cell? ⟨gb202, 3, none⟩ = some (.string (⟨#[]⟩ : ByteArray)) := (blk_cell BK202.out 3).trans rfl
              have hfz68_0 := blk_frozen BK202.out 0
              have hfz68_1 := blk_frozen BK202.out 1
              have hfz68_2 := blk_frozen BK202.out 2
              have hfz68_3 := blk_frozen BK202.out 3
              obtain ⟨Ao69, co69, eo69⟩ := Kd.R_slice HO_3.out
              subst eo69
              go_wp2_with (first | ((with_reducible refine gate_callee (f := 13) rfl ?_); refine goesL_ (some 56) rfl rfl Tryd.func13 (by kernel_rfl) rfl #[.slice Ao69 x3_1.length co69, .int .i64 x5_1, .int .i64 ((rd_T42 l0 x6_1).f1), .int .i64 ((rd_T42 l0 x6_1).f2)] rfl (by (try simp only [List.map_toArray, List.map_cons, List.map_nil]); first | done | rfl | (simp only [List.length_drop, List.length_take]; rfl)) ?_; (with_reducible refine (sparse_Read.calls k1 _ _ x3_1 x5_1 ((rd_T42 l0 x6_1).f1) ((rd_T42 l0 x6_1).f2) t231 t232 _ ?side1 ?side2 A64.out).mono ?_); (case side1 => refine (Kd.R_reads' (e := 39) (base := w.heap.size) (ok := fun k_ => some k_ ≠ (u4 : Value).ownBlock) (n := x3_1.length) (c := co69) ?_).2.2; exact (by (with_reducible repeat (first | apply Kd.R_alloc | apply Kd.R_drewN | apply Kd.R_drew)); exact (Kd.R_mono (Kd.R_far (p := ⟨gb202, 3, none⟩) (Kd.R_far (p := ⟨gb202, 2, none⟩) (Kd.R_far (p := ⟨gb202, 1, none⟩) (Kd.R_far (p := ⟨gb202, 0, none⟩) (Kd.R_types HO_3.out BK202.out (by decide)) (fun _ hk => hk.2) (.int .i64 ((rd_T42 l0 x6_1).f0))) (fun _ hk => hk.2) (.int .i64 ((rd_T42 l0 x6_1).f1))) (fun _ hk => hk.2) (.int .i64 ((rd_T42 l0 x6_1).f2))) (fun _ hk => hk.2) (.string ((rd_T42 l0 x6_1).f3))) (fun _ h_ => h_.1)))); (case side2 => exact (Kd.R_reads' HO_3.out).2.1); rintro e w70 ⟨rfl, hb⟩; refine ⟨_, rfl, ?_⟩; have n0_ := Aside0.mk (Kd.R_below (by (with_reducible repeat (first | apply Kd.R_alloc | apply Kd.R_drewN | apply Kd.R_drew)); exact (Kd.R_mono (Kd.R_far (p := ⟨gb202, 3, none⟩) (Kd.R_far (p := ⟨gb202, 2, none⟩) (Kd.R_far (p := ⟨gb202, 1, none⟩) (Kd.R_far (p := ⟨gb202, 0, none⟩) (Kd.R_types HO_3.out BK202.out (by decide)) (fun _ hk => hk.2) (.int .i64 ((rd_T42 l0 x6_1).f0))) (fun _ hk => hk.2) (.int .i64 ((rd_T42 l0 x6_1).f1))) (fun _ hk => hk.2) (.int .i64 ((rd_T42 l0 x6_1).f2))) (fun _ hk => hk.2) (.string ((rd_T42 l0 x6_1).f3))) (fun _ h_ => h_.1))) hb); have n1_ := Aside0.mk (Kd.R_below (by (with_reducible repeat (first | apply Kd.R_alloc | apply Kd.R_drewN | apply Kd.R_drew)); exact (Kd.R_mono (Kd.R_far (p := ⟨gb202, 3, none⟩) (Kd.R_far (p := ⟨gb202, 2, none⟩) (Kd.R_far (p := ⟨gb202, 1, none⟩) (Kd.R_far (p := ⟨gb202, 0, none⟩) (Kd.R_types HO_4.out BK202.out (by decide)) (fun _ hk => hk.2) (.int .i64 ((rd_T42 l0 x6_1).f0))) (fun _ hk => hk.2) (.int .i64 ((rd_T42 l0 x6_1).f1))) (fun _ hk => hk.2) (.int .i64 ((rd_T42 l0 x6_1).f2))) (fun _ hk => hk.2) (.string ((rd_T42 l0 x6_1).f3))) (fun _ h_ => h_.1))) hb); have n2_ := Aside0.mk (blk_below (g := gb202) (o := .cells #[.int .i64 ((rd_T42 l0 x6_1).f0), .int .i64 ((rd_T42 l0 x6_1).f1), .int .i64 ((rd_T42 l0 x6_1).f2), .string ((rd_T42 l0 x6_1).f3)] 42 (0, 0)) (by (with_reducible repeat (first | refine blk_drewN ?_ _ | refine blk_drew ?_ | refine blk_alloc ?_ _)); refine blk_put (cs := #[.int .i64 ((rd_T42 l0 x6_1).f0), .int .i64 ((rd_T42 l0 x6_1).f1), .int .i64 ((rd_T42 l0 x6_1).f2), .string (⟨#[]⟩ : ByteArray)]) ?_ 3 _ rfl; (with_reducible repeat (first | refine blk_drewN ?_ _ | refine blk_drew ?_ | refine blk_alloc ?_ _)); refine blk_put (cs := #[.int .i64 ((rd_T42 l0 x6_1).f0), .int .i64 ((rd_T42 l0 x6_1).f1), .int .i64 0, .string (⟨#[]⟩ : ByteArray)]) ?_ 2 _ rfl; (with_reducible repeat (first | refine blk_drewN ?_ _ | refine blk_drew ?_ | refine blk_alloc ?_ _)); refine blk_put (cs := #[.int .i64 ((rd_T42 l0 x6_1).f0), .int .i64 0, .int .i64 0, .string (⟨#[]⟩ : ByteArray)]) ?_ 1 _ rfl; (with_reducible repeat (first | refine blk_drewN ?_ _ | refine blk_drew ?_ | refine blk_alloc ?_ _)); refine blk_put (cs := #[.int .i64 0, .int .i64 0, .int .i64 0, .string (⟨#[]⟩ : ByteArray)]) ?_ 0 _ rfl; (with_reducible repeat (first | refine blk_drewN ?_ _ | refine blk_drew ?_ | refine blk_alloc ?_ _)); exact BK202.out) hb); have n3_ := Aside0.mk (below_step (by repeat (first | (with_reducible first | exact HB.out | apply below_alloc | apply pw_below_drewN | apply below_drew1 | refine below_set ?_ GE202.out) | exact HB.out)) hb); clear HO_3; clear HO_4; clear BK202; clear HB; have HO_3 := n0_; have HO_4 := n1_; have BK202 := n2_; have HB := n3_; clear n0_ n1_ n2_ n3_; (try clear hb); (try clear hb2); (try clear hk); (try clear hi); have hcz71_0 : w70.cell? ⟨gb202, 0, none⟩ = some (.int .i64 ((rd_T42 l0 x6_1).f0)) := (blk_cell BK202.out 0).trans rfl; have hcz71_1 : w70.cell? ⟨gb202, 1, none⟩ = some (.int .i64 ((rd_T42 l0 x6_1).f1)) := (blk_cell BK202.out 1).trans rfl; have hcz71_2 : w70.cell? ⟨gb202, 2, none⟩ = some (.int .i64 ((rd_T42 l0 x6_1).f2)) := (blk_cell BK202.out 2).trans rfl; have hcz71_3 : w70.cell? ⟨gb202, 3, none⟩ = some (.string ((rd_T42 l0 x6_1).f3)) := (blk_cell BK202.out 3).trans rfl; have hfz71_0 := blk_frozen BK202.out 0; have hfz71_1 := blk_frozen BK202.out 1; have hfz71_2 := blk_frozen BK202.out 2; have hfz71_3 := blk_frozen BK202.out 3; obtain ⟨Ao72, co72, eo72⟩ := Kd.R_slice HO_4.out; subst eo72) | ((with_reducible refine gate_callee (f := 22) rfl ?_); refine goesL_ (some 66) rfl rfl Tryd.func22 (by kernel_rfl) rfl #[.slice Ao72 x4_1.length co72, .int .i64 x5_1, .int .i64 ((rd_T42 l0 x6_1).f1), .int .i64 ((rd_T42 l0 x6_1).f2)] rfl (by (try simp only [List.map_toArray, List.map_cons, List.map_nil]); first | done | rfl | (simp only [List.length_drop, List.length_take]; rfl)) ?_; (with_reducible refine (coppiceref13_Read.calls k1 _ _ x4_1 x5_1 ((rd_T42 l0 x6_1).f1) ((rd_T42 l0 x6_1).f2) t233 t234 _ ?side1 ?side2 A65.out).mono ?_); (case side1 => repeat (first | exact (Kd.R_reads' HO_4.out).2.2 | (with_reducible refine Kd.C_alloc ?_ _) | (with_reducible refine Kd.C_drewN ?_ _) | (with_reducible refine Kd.C_drew ?_))); (case side2 => exact (Kd.R_reads' HO_4.out).2.1); rintro e w73 ⟨rfl, hb⟩; refine ⟨_, rfl, ?_⟩; have n0_ := Aside0.mk (Kd.R_below (by (with_reducible repeat (first | apply Kd.R_alloc | apply Kd.R_drewN | apply Kd.R_drew)); exact HO_3.out) hb); have n1_ := Aside0.mk (Kd.R_below (by (with_reducible repeat (first | apply Kd.R_alloc | apply Kd.R_drewN | apply Kd.R_drew)); exact HO_4.out) hb); have n2_ := Aside0.mk (blk_below (g := gb202) (o := .cells #[.int .i64 ((rd_T42 l0 x6_1).f0), .int .i64 ((rd_T42 l0 x6_1).f1), .int .i64 ((rd_T42 l0 x6_1).f2), .string ((rd_T42 l0 x6_1).f3)] 42 (0, 0)) (by (with_reducible repeat (first | refine blk_drewN ?_ _ | refine blk_drew ?_ | refine blk_alloc ?_ _)); exact BK202.out) hb); have n3_ := Aside0.mk (below_step (by repeat (first | (with_reducible first | exact HB.out | apply below_alloc | apply pw_below_drewN | apply below_drew1 | refine below_set ?_ GE202.out) | exact HB.out)) hb); clear HO_3; clear HO_4; clear BK202; clear HB; have HO_3 := n0_; have HO_4 := n1_; have BK202 := n2_; have HB := n3_; clear n0_ n1_ n2_ n3_; (try clear hb); (try clear hb2); (try clear hk); (try clear hi)))
              go_meet
              case rel => exact ⟨_, (x3_1), (x4_1), (x5_1), (by first | rfl | (simp; done) | (simp [*]; done)), H', ⟨by have := HK1.out; first | omega | exact Nat.le_refl _⟩, ⟨by (with_reducible repeat (first | apply Kd.R_alloc | apply Kd.R_drewN | apply Kd.R_drew)); exact HO_3.out⟩, ⟨by (with_reducible repeat (first | apply Kd.R_alloc | apply Kd.R_drewN | apply Kd.R_drew)); exact HO_4.out⟩, ⟨by (with_reducible repeat (first | refine blk_drewN ?_ _ | refine blk_drew ?_ | refine blk_alloc ?_ _)); exact BK202.out⟩, ⟨by repeat (first | (with_reducible first | exact HB.out | apply below_alloc | apply pw_below_drewN | apply below_drew1 | refine below_set ?_ GE202.out) | exact HB.out)⟩⟩
             ·rw [if_neg c67] at H
              have c67b0 : (t232 == t234) = false := beq_eq_false_iff_ne.mpr c67
              have c67b1 : (t232 != t234) = true := bne_iff_ne.mpr c67
              obtain rfl := Option.some.inj H
              have hcz74_0 : w13.cell? ⟨gb202, 0, none⟩ = some (.int .i64 0) := (blk_cell BK202.out 0).trans rfl
              have hcz74_1 : w13.cell? ⟨gb202, 1, none⟩ = some (.int .i64 0) := (blk_cell BK202.out 1).trans rfl
              have hcz74_2 : w13.cell? ⟨gb202, 2, none⟩ = some (.int .i64 0) := (blk_cell BK202.out 2).trans rfl
              have hcz74_3 : w13.cell? ⟨gb202, 3, none⟩ = some (.string (⟨#[]⟩ : ByteArray)) := (blk_cell BK202.out 3).trans rfl
              have hfz74_0 := blk_frozen BK202.out 0
              have hfz74_1 := blk_frozen BK202.out 1
              have hfz74_2 := blk_frozen BK202.out 2
              have hfz74_3 := blk_frozen BK202.out 3
              obtain ⟨Ao75, co75, eo75⟩ := Kd.R_slice HO_3.out
              subst eo75
              go_wp2_with (first | ((with_reducible refine gate_callee (f := 13) rfl ?_); refine goesL_ (some 56) rfl rfl Tryd.func13 (by kernel_rfl) rfl #[.slice Ao75 x3_1.length co75, .int .i64 x5_1, .int .i64 ((rd_T42 l0 x6_1).f1), .int .i64 ((rd_T42 l0 x6_1).f2)] rfl (by (try simp only [List.map_toArray, List.map_cons, List.map_nil]); first | done | rfl | (simp only [List.length_drop, List.length_take]; rfl)) ?_; (with_reducible refine (sparse_Read.calls k1 _ _ x3_1 x5_1 ((rd_T42 l0 x6_1).f1) ((rd_T42 l0 x6_1).f2) t231 t232 _ ?side1 ?side2 A64.out).mono ?_); (case side1 => refine (Kd.R_reads' (e := 39) (base := w.heap.size) (ok := fun k_ => some k_ ≠ (u4 : Value).ownBlock) (n := x3_1.length) (c := co75) ?_).2.2; exact (by (with_reducible repeat (first | apply Kd.R_alloc | apply Kd.R_drewN | apply Kd.R_drew)); exact (Kd.R_mono (Kd.R_far (p := ⟨gb202, 3, none⟩) (Kd.R_far (p := ⟨gb202, 2, none⟩) (Kd.R_far (p := ⟨gb202, 1, none⟩) (Kd.R_far (p := ⟨gb202, 0, none⟩) (Kd.R_types HO_3.out BK202.out (by decide)) (fun _ hk => hk.2) (.int .i64 ((rd_T42 l0 x6_1).f0))) (fun _ hk => hk.2) (.int .i64 ((rd_T42 l0 x6_1).f1))) (fun _ hk => hk.2) (.int .i64 ((rd_T42 l0 x6_1).f2))) (fun _ hk => hk.2) (.string ((rd_T42 l0 x6_1).f3))) (fun _ h_ => h_.1)))); (case side2 => exact (Kd.R_reads' HO_3.out).2.1); rintro e w76 ⟨rfl, hb⟩; refine ⟨_, rfl, ?_⟩; have n0_ := Aside0.mk (Kd.R_below (by (with_reducible repeat (first | apply Kd.R_alloc | apply Kd.R_drewN | apply Kd.R_drew)); exact (Kd.R_mono (Kd.R_far (p := ⟨gb202, 3, none⟩) (Kd.R_far (p := ⟨gb202, 2, none⟩) (Kd.R_far (p := ⟨gb202, 1, none⟩) (Kd.R_far (p := ⟨gb202, 0, none⟩) (Kd.R_types HO_3.out BK202.out (by decide)) (fun _ hk => hk.2) (.int .i64 ((rd_T42 l0 x6_1).f0))) (fun _ hk => hk.2) (.int .i64 ((rd_T42 l0 x6_1).f1))) (fun _ hk => hk.2) (.int .i64 ((rd_T42 l0 x6_1).f2))) (fun _ hk => hk.2) (.string ((rd_T42 l0 x6_1).f3))) (fun _ h_ => h_.1))) hb); have n1_ := Aside0.mk (Kd.R_below (by (with_reducible repeat (first | apply Kd.R_alloc | apply Kd.R_drewN | apply Kd.R_drew)); exact (Kd.R_mono (Kd.R_far (p := ⟨gb202, 3, none⟩) (Kd.R_far (p := ⟨gb202, 2, none⟩) (Kd.R_far (p := ⟨gb202, 1, none⟩) (Kd.R_far (p := ⟨gb202, 0, none⟩) (Kd.R_types HO_4.out BK202.out (by decide)) (fun _ hk => hk.2) (.int .i64 ((rd_T42 l0 x6_1).f0))) (fun _ hk => hk.2) (.int .i64 ((rd_T42 l0 x6_1).f1))) (fun _ hk => hk.2) (.int .i64 ((rd_T42 l0 x6_1).f2))) (fun _ hk => hk.2) (.string ((rd_T42 l0 x6_1).f3))) (fun _ h_ => h_.1))) hb); have n2_ := Aside0.mk (blk_below (g := gb202) (o := .cells #[.int .i64 ((rd_T42 l0 x6_1).f0), .int .i64 ((rd_T42 l0 x6_1).f1), .int .i64 ((rd_T42 l0 x6_1).f2), .string ((rd_T42 l0 x6_1).f3)] 42 (0, 0)) (by (with_reducible repeat (first | refine blk_drewN ?_ _ | refine blk_drew ?_ | refine blk_alloc ?_ _)); refine blk_put (cs := #[.int .i64 ((rd_T42 l0 x6_1).f0), .int .i64 ((rd_T42 l0 x6_1).f1), .int .i64 ((rd_T42 l0 x6_1).f2), .string (⟨#[]⟩ : ByteArray)]) ?_ 3 _ rfl; (with_reducible repeat (first | refine blk_drewN ?_ _ | refine blk_drew ?_ | refine blk_alloc ?_ _)); refine blk_put (cs := #[.int .i64 ((rd_T42 l0 x6_1).f0), .int .i64 ((rd_T42 l0 x6_1).f1), .int .i64 0, .string (⟨#[]⟩ : ByteArray)]) ?_ 2 _ rfl; (with_reducible repeat (first | refine blk_drewN ?_ _ | refine blk_drew ?_ | refine blk_alloc ?_ _)); refine blk_put (cs := #[.int .i64 ((rd_T42 l0 x6_1).f0), .int .i64 0, .int .i64 0, .string (⟨#[]⟩ : ByteArray)]) ?_ 1 _ rfl; (with_reducible repeat (first | refine blk_drewN ?_ _ | refine blk_drew ?_ | refine blk_alloc ?_ _)); refine blk_put (cs := #[.int .i64 0, .int .i64 0, .int .i64 0, .string (⟨#[]⟩ : ByteArray)]) ?_ 0 _ rfl; (with_reducible repeat (first | refine blk_drewN ?_ _ | refine blk_drew ?_ | refine blk_alloc ?_ _)); exact BK202.out) hb); have n3_ := Aside0.mk (below_step (by repeat (first | (with_reducible first | exact HB.out | apply below_alloc | apply pw_below_drewN | apply below_drew1 | refine below_set ?_ GE202.out) | exact HB.out)) hb); clear HO_3; clear HO_4; clear BK202; clear HB; have HO_3 := n0_; have HO_4 := n1_; have BK202 := n2_; have HB := n3_; clear n0_ n1_ n2_ n3_; (try clear hb); (try clear hb2); (try clear hk); (try clear hi); have hcz77_0 : w76.cell? ⟨gb202, 0, none⟩ = some (.int .i64 ((rd_T42 l0 x6_1).f0)) := (blk_cell BK202.out 0).trans rfl; have hcz77_1 : w76.cell? ⟨gb202, 1, none⟩ = some (.int .i64 ((rd_T42 l0 x6_1).f1)) := (blk_cell BK202.out 1).trans rfl; have hcz77_2 : w76.cell? ⟨gb202, 2, none⟩ = some (.int .i64 ((rd_T42 l0 x6_1).f2)) := (blk_cell BK202.out 2).trans rfl; have hcz77_3 : w76.cell? ⟨gb202, 3, none⟩ = some (.string ((rd_T42 l0 x6_1).f3)) := (blk_cell BK202.out 3).trans rfl; have hfz77_0 := blk_frozen BK202.out 0; have hfz77_1 := blk_frozen BK202.out 1; have hfz77_2 := blk_frozen BK202.out 2; have hfz77_3 := blk_frozen BK202.out 3; obtain ⟨Ao78, co78, eo78⟩ := Kd.R_slice HO_4.out; subst eo78) | ((with_reducible refine gate_callee (f := 22) rfl ?_); refine goesL_ (some 66) rfl rfl Tryd.func22 (by kernel_rfl) rfl #[.slice Ao78 x4_1.length co78, .int .i64 x5_1, .int .i64 ((rd_T42 l0 x6_1).f1), .int .i64 ((rd_T42 l0 x6_1).f2)] rfl (by (try simp only [List.map_toArray, List.map_cons, List.map_nil]); first | done | rfl | (simp only [List.length_drop, List.length_take]; rfl)) ?_; (with_reducible refine (coppiceref13_Read.calls k1 _ _ x4_1 x5_1 ((rd_T42 l0 x6_1).f1) ((rd_T42 l0 x6_1).f2) t233 t234 _ ?side1 ?side2 A65.out).mono ?_); (case side1 => repeat (first | exact (Kd.R_reads' HO_4.out).2.2 | (with_reducible refine Kd.C_alloc ?_ _) | (with_reducible refine Kd.C_drewN ?_ _) | (with_reducible refine Kd.C_drew ?_))); (case side2 => exact (Kd.R_reads' HO_4.out).2.1); rintro e w79 ⟨rfl, hb⟩; refine ⟨_, rfl, ?_⟩; have n0_ := Aside0.mk (Kd.R_below (by (with_reducible repeat (first | apply Kd.R_alloc | apply Kd.R_drewN | apply Kd.R_drew)); exact HO_3.out) hb); have n1_ := Aside0.mk (Kd.R_below (by (with_reducible repeat (first | apply Kd.R_alloc | apply Kd.R_drewN | apply Kd.R_drew)); exact HO_4.out) hb); have n2_ := Aside0.mk (blk_below (g := gb202) (o := .cells #[.int .i64 ((rd_T42 l0 x6_1).f0), .int .i64 ((rd_T42 l0 x6_1).f1), .int .i64 ((rd_T42 l0 x6_1).f2), .string ((rd_T42 l0 x6_1).f3)] 42 (0, 0)) (by (with_reducible repeat (first | refine blk_drewN ?_ _ | refine blk_drew ?_ | refine blk_alloc ?_ _)); exact BK202.out) hb); have n3_ := Aside0.mk (below_step (by repeat (first | (with_reducible first | exact HB.out | apply below_alloc | apply pw_below_drewN | apply below_drew1 | refine below_set ?_ GE202.out) | exact HB.out)) hb); clear HO_3; clear HO_4; clear BK202; clear HB; have HO_3 := n0_; have HO_4 := n1_; have BK202 := n2_; have HB := n3_; clear n0_ n1_ n2_ n3_; (try clear hb); (try clear hb2); (try clear hk); (try clear hi)))
              go_ret
              exact ⟨by first | rfl | (simp [errW_none, errW_some] <;> rfl) | (simp [*, errW_none, errW_some] <;> rfl), by repeat (first | (with_reducible first | exact HB.out | apply below_alloc | apply pw_below_drewN | apply below_drew1 | refine below_set ?_ GE202.out) | exact HB.out)⟩
            ·rw [if_neg c66] at H
             have c66b0 : (t231.toList == t233.toList) = false := beq_eq_false_iff_ne.mpr c66
             have c66b1 : (t231.toList != t233.toList) = true := bne_iff_ne.mpr c66
             obtain rfl := Option.some.inj H
             have hcz80_0 : w13.cell? ⟨gb202, 0, none⟩ = some (.int .i64 0) := (blk_cell BK202.out 0).trans rfl
             have hcz80_1 : w13.cell? ⟨gb202, 1, none⟩ = some (.int .i64 0) := (blk_cell BK202.out 1).trans rfl
             have hcz80_2 : w13.cell? ⟨gb202, 2, none⟩ = some (.int .i64 0) := (blk_cell BK202.out 2).trans rfl
             have hcz80_3 : w13.cell? ⟨gb202, 3, none⟩ = some (.string (⟨#[]⟩ : ByteArray)) := (blk_cell BK202.out 3).trans rfl
             have hfz80_0 := blk_frozen BK202.out 0
             have hfz80_1 := blk_frozen BK202.out 1
             have hfz80_2 := blk_frozen BK202.out 2
             have hfz80_3 := blk_frozen BK202.out 3
             obtain ⟨Ao81, co81, eo81⟩ := Kd.R_slice HO_3.out
             subst eo81
             go_wp2_with (first | ((with_reducible refine gate_callee (f := 13) rfl ?_); refine goesL_ (some 56) rfl rfl Tryd.func13 (by kernel_rfl) rfl #[.slice Ao81 x3_1.length co81, .int .i64 x5_1, .int .i64 ((rd_T42 l0 x6_1).f1), .int .i64 ((rd_T42 l0 x6_1).f2)] rfl (by (try simp only [List.map_toArray, List.map_cons, List.map_nil]); first | done | rfl | (simp only [List.length_drop, List.length_take]; rfl)) ?_; (with_reducible refine (sparse_Read.calls k1 _ _ x3_1 x5_1 ((rd_T42 l0 x6_1).f1) ((rd_T42 l0 x6_1).f2) t231 t232 _ ?side1 ?side2 A64.out).mono ?_); (case side1 => refine (Kd.R_reads' (e := 39) (base := w.heap.size) (ok := fun k_ => some k_ ≠ (u4 : Value).ownBlock) (n := x3_1.length) (c := co81) ?_).2.2; exact (by (with_reducible repeat (first | apply Kd.R_alloc | apply Kd.R_drewN | apply Kd.R_drew)); exact (Kd.R_mono (Kd.R_far (p := ⟨gb202, 3, none⟩) (Kd.R_far (p := ⟨gb202, 2, none⟩) (Kd.R_far (p := ⟨gb202, 1, none⟩) (Kd.R_far (p := ⟨gb202, 0, none⟩) (Kd.R_types HO_3.out BK202.out (by decide)) (fun _ hk => hk.2) (.int .i64 ((rd_T42 l0 x6_1).f0))) (fun _ hk => hk.2) (.int .i64 ((rd_T42 l0 x6_1).f1))) (fun _ hk => hk.2) (.int .i64 ((rd_T42 l0 x6_1).f2))) (fun _ hk => hk.2) (.string ((rd_T42 l0 x6_1).f3))) (fun _ h_ => h_.1)))); (case side2 => exact (Kd.R_reads' HO_3.out).2.1); rintro e w82 ⟨rfl, hb⟩; refine ⟨_, rfl, ?_⟩; have n0_ := Aside0.mk (Kd.R_below (by (with_reducible repeat (first | apply Kd.R_alloc | apply Kd.R_drewN | apply Kd.R_drew)); exact (Kd.R_mono (Kd.R_far (p := ⟨gb202, 3, none⟩) (Kd.R_far (p := ⟨gb202, 2, none⟩) (Kd.R_far (p := ⟨gb202, 1, none⟩) (Kd.R_far (p := ⟨gb202, 0, none⟩) (Kd.R_types HO_3.out BK202.out (by decide)) (fun _ hk => hk.2) (.int .i64 ((rd_T42 l0 x6_1).f0))) (fun _ hk => hk.2) (.int .i64 ((rd_T42 l0 x6_1).f1))) (fun _ hk => hk.2) (.int .i64 ((rd_T42 l0 x6_1).f2))) (fun _ hk => hk.2) (.string ((rd_T42 l0 x6_1).f3))) (fun _ h_ => h_.1))) hb); have n1_ := Aside0.mk (Kd.R_below (by (with_reducible repeat (first | apply Kd.R_alloc | apply Kd.R_drewN | apply Kd.R_drew)); exact (Kd.R_mono (Kd.R_far (p := ⟨gb202, 3, none⟩) (Kd.R_far (p := ⟨gb202, 2, none⟩) (Kd.R_far (p := ⟨gb202, 1, none⟩) (Kd.R_far (p := ⟨gb202, 0, none⟩) (Kd.R_types HO_4.out BK202.out (by decide)) (fun _ hk => hk.2) (.int .i64 ((rd_T42 l0 x6_1).f0))) (fun _ hk => hk.2) (.int .i64 ((rd_T42 l0 x6_1).f1))) (fun _ hk => hk.2) (.int .i64 ((rd_T42 l0 x6_1).f2))) (fun _ hk => hk.2) (.string ((rd_T42 l0 x6_1).f3))) (fun _ h_ => h_.1))) hb); have n2_ := Aside0.mk (blk_below (g := gb202) (o := .cells #[.int .i64 ((rd_T42 l0 x6_1).f0), .int .i64 ((rd_T42 l0 x6_1).f1), .int .i64 ((rd_T42 l0 x6_1).f2), .string ((rd_T42 l0 x6_1).f3)] 42 (0, 0)) (by (with_reducible repeat (first | refine blk_drewN ?_ _ | refine blk_drew ?_ | refine blk_alloc ?_ _)); refine blk_put (cs := #[.int .i64 ((rd_T42 l0 x6_1).f0), .int .i64 ((rd_T42 l0 x6_1).f1), .int .i64 ((rd_T42 l0 x6_1).f2), .string (⟨#[]⟩ : ByteArray)]) ?_ 3 _ rfl; (with_reducible repeat (first | refine blk_drewN ?_ _ | refine blk_drew ?_ | refine blk_alloc ?_ _)); refine blk_put (cs := #[.int .i64 ((rd_T42 l0 x6_1).f0), .int .i64 ((rd_T42 l0 x6_1).f1), .int .i64 0, .string (⟨#[]⟩ : ByteArray)]) ?_ 2 _ rfl; (with_reducible repeat (first | refine blk_drewN ?_ _ | refine blk_drew ?_ | refine blk_alloc ?_ _)); refine blk_put (cs := #[.int .i64 ((rd_T42 l0 x6_1).f0), .int .i64 0, .int .i64 0, .string (⟨#[]⟩ : ByteArray)]) ?_ 1 _ rfl; (with_reducible repeat (first | refine blk_drewN ?_ _ | refine blk_drew ?_ | refine blk_alloc ?_ _)); refine blk_put (cs := #[.int .i64 0, .int .i64 0, .int .i64 0, .string (⟨#[]⟩ : ByteArray)]) ?_ 0 _ rfl; (with_reducible repeat (first | refine blk_drewN ?_ _ | refine blk_drew ?_ | refine blk_alloc ?_ _)); exact BK202.out) hb); have n3_ := Aside0.mk (below_step (by repeat (first | (with_reducible first | exact HB.out | apply below_alloc | apply pw_below_drewN | apply below_drew1 | refine below_set ?_ GE202.out) | exact HB.out)) hb); clear HO_3; clear HO_4; clear BK202; clear HB; have HO_3 := n0_; have HO_4 := n1_; have BK202 := n2_; have HB := n3_; clear n0_ n1_ n2_ n3_; (try clear hb); (try clear hb2); (try clear hk); (try clear hi); have hcz83_0 : w82.cell? ⟨gb202, 0, none⟩ = some (.int .i64 ((rd_T42 l0 x6_1).f0)) := (blk_cell BK202.out 0).trans rfl; have hcz83_1 : w82.cell? ⟨gb202, 1, none⟩ = some (.int .i64 ((rd_T42 l0 x6_1).f1)) := (blk_cell BK202.out 1).trans rfl; have hcz83_2 : w82.cell? ⟨gb202, 2, none⟩ = some (.int .i64 ((rd_T42 l0 x6_1).f2)) := (blk_cell BK202.out 2).trans rfl; have hcz83_3 : w82.cell? ⟨gb202, 3, none⟩ = some (.string ((rd_T42 l0 x6_1).f3)) := (blk_cell BK202.out 3).trans rfl; have hfz83_0 := blk_frozen BK202.out 0; have hfz83_1 := blk_frozen BK202.out 1; have hfz83_2 := blk_frozen BK202.out 2; have hfz83_3 := blk_frozen BK202.out 3; obtain ⟨Ao84, co84, eo84⟩ := Kd.R_slice HO_4.out; subst eo84) | ((with_reducible refine gate_callee (f := 22) rfl ?_); refine goesL_ (some 66) rfl rfl Tryd.func22 (by kernel_rfl) rfl #[.slice Ao84 x4_1.length co84, .int .i64 x5_1, .int .i64 ((rd_T42 l0 x6_1).f1), .int .i64 ((rd_T42 l0 x6_1).f2)] rfl (by (try simp only [List.map_toArray, List.map_cons, List.map_nil]); first | done | rfl | (simp only [List.length_drop, List.length_take]; rfl)) ?_; (with_reducible refine (coppiceref13_Read.calls k1 _ _ x4_1 x5_1 ((rd_T42 l0 x6_1).f1) ((rd_T42 l0 x6_1).f2) t233 t234 _ ?side1 ?side2 A65.out).mono ?_); (case side1 => repeat (first | exact (Kd.R_reads' HO_4.out).2.2 | (with_reducible refine Kd.C_alloc ?_ _) | (with_reducible refine Kd.C_drewN ?_ _) | (with_reducible refine Kd.C_drew ?_))); (case side2 => exact (Kd.R_reads' HO_4.out).2.1); rintro e w85 ⟨rfl, hb⟩; refine ⟨_, rfl, ?_⟩; have n0_ := Aside0.mk (Kd.R_below (by (with_reducible repeat (first | apply Kd.R_alloc | apply Kd.R_drewN | apply Kd.R_drew)); exact HO_3.out) hb); have n1_ := Aside0.mk (Kd.R_below (by (with_reducible repeat (first | apply Kd.R_alloc | apply Kd.R_drewN | apply Kd.R_drew)); exact HO_4.out) hb); have n2_ := Aside0.mk (blk_below (g := gb202) (o := .cells #[.int .i64 ((rd_T42 l0 x6_1).f0), .int .i64 ((rd_T42 l0 x6_1).f1), .int .i64 ((rd_T42 l0 x6_1).f2), .string ((rd_T42 l0 x6_1).f3)] 42 (0, 0)) (by (with_reducible repeat (first | refine blk_drewN ?_ _ | refine blk_drew ?_ | refine blk_alloc ?_ _)); exact BK202.out) hb); have n3_ := Aside0.mk (below_step (by repeat (first | (with_reducible first | exact HB.out | apply below_alloc | apply pw_below_drewN | apply below_drew1 | refine below_set ?_ GE202.out) | exact HB.out)) hb); clear HO_3; clear HO_4; clear BK202; clear HB; have HO_3 := n0_; have HO_4 := n1_; have BK202 := n2_; have HB := n3_; clear n0_ n1_ n2_ n3_; (try clear hb); (try clear hb2); (try clear hk); (try clear hi)))
             go_ret
             exact ⟨by first | rfl | (simp [errW_none, errW_some] <;> rfl) | (simp [*, errW_none, errW_some] <;> rfl), by repeat (first | (with_reducible first | exact HB.out | apply below_alloc | apply pw_below_drewN | apply below_drew1 | refine below_set ?_ GE202.out) | exact HB.out)⟩
        case rest => as_aux_lemma =>
         clear HC12
         try clear c1
         try clear c2
         try clear p2
         try clear q2
         try clear hx2
         try clear c3
         try clear c4
         try clear c4b0
         try clear c4b1
         try clear c6
         try clear c7
         try clear c7b0
         try clear c8
         try clear c8b0
         try clear c9
         try clear c9b0
         try clear c9b1
         try clear c11
         try clear c13
         try clear c15
         try clear c15b0
         try clear c15b1
         try clear c16
         try clear c17
         try clear c19
         try clear c20
         try clear p20
         try clear q20
         try clear hx20
         try clear c21
         try clear c22
         try clear c25
         try clear c25b0
         try clear c25b1
         try clear c26
         try clear c27
         try clear c27b0
         try clear c27b1
         try clear c28
         try clear c28b0
         try clear c28b1
         try clear c38
         try clear c38b0
         try clear c38b1
         try clear c39
         try clear c40
         try clear c40b0
         try clear c40b1
         try clear c41
         try clear c41b0
         try clear c41b1
         try clear c44
         try clear c44b0
         try clear c44b1
         try clear c45
         try clear c45b0
         try clear c45b1
         try clear c66
         try clear c66b0
         try clear c66b1
         try clear c67
         try clear c67b0
         try clear c67b1
         try clear hcz11_0
         try clear hcz11_1
         try clear hcz11_2
         try clear hcz11_3
         try clear hcz14_0
         try clear hcz14_1
         try clear hcz14_2
         try clear hcz14_3
         try clear hcz19_0
         try clear hcz19_1
         try clear hcz19_2
         try clear hcz19_3
         try clear hcz22_0
         try clear hcz22_1
         try clear hcz22_2
         try clear hcz22_3
         try clear hcz32_0
         try clear hcz32_1
         try clear hcz32_2
         try clear hcz32_3
         try clear hcz35_0
         try clear hcz35_1
         try clear hcz35_2
         try clear hcz35_3
         try clear hcz46_0
         try clear hcz46_1
         try clear hcz46_2
         try clear hcz46_3
         try clear hcz49_0
         try clear hcz49_1
         try clear hcz49_2
         try clear hcz49_3
         try clear hcz52_0
         try clear hcz52_1
         try clear hcz52_2
         try clear hcz52_3
         try clear hcz55_0
         try clear hcz55_1
         try clear hcz55_2
         try clear hcz55_3
         try clear hcz58_0
         try clear hcz58_1
         try clear hcz58_2
         try clear hcz58_3
         try clear hcz61_0
         try clear hcz61_1
         try clear hcz61_2
         try clear hcz61_3
         try clear hcz68_0
         try clear hcz68_1
         try clear hcz68_2
         try clear hcz68_3
         try clear hcz71_0
         try clear hcz71_1
         try clear hcz71_2
         try clear hcz71_3
         try clear hcz74_0
         try clear hcz74_1
         try clear hcz74_2
         try clear hcz74_3
         try clear hcz77_0
         try clear hcz77_1
         try clear hcz77_2
         try clear hcz77_3
         try clear hcz80_0
         try clear hcz80_1
         try clear hcz80_2
         try clear hcz80_3
         try clear hcz83_0
         try clear hcz83_1
         try clear hcz83_2
         try clear hcz83_3
         try clear hfz11_0
         try clear hfz11_1
         try clear hfz11_2
         try clear hfz11_3
         try clear hfz14_0
         try clear hfz14_1
         try clear hfz14_2
         try clear hfz14_3
         try clear hfz19_0
         try clear hfz19_1
         try clear hfz19_2
         try clear hfz19_3
         try clear hfz22_0
         try clear hfz22_1
         try clear hfz22_2
         try clear hfz22_3
         try clear hfz32_0
         try clear hfz32_1
         try clear hfz32_2
         try clear hfz32_3
         try clear hfz35_0
         try clear hfz35_1
         try clear hfz35_2
         try clear hfz35_3
         try clear hfz46_0
         try clear hfz46_1
         try clear hfz46_2
         try clear hfz46_3
         try clear hfz49_0
         try clear hfz49_1
         try clear hfz49_2
         try clear hfz49_3
         try clear hfz52_0
         try clear hfz52_1
         try clear hfz52_2
         try clear hfz52_3
         try clear hfz55_0
         try clear hfz55_1
         try clear hfz55_2
         try clear hfz55_3
         try clear hfz58_0
         try clear hfz58_1
         try clear hfz58_2
         try clear hfz58_3
         try clear hfz61_0
         try clear hfz61_1
         try clear hfz61_2
         try clear hfz61_3
         try clear hfz68_0
         try clear hfz68_1
         try clear hfz68_2
         try clear hfz68_3
         try clear hfz71_0
         try clear hfz71_1
         try clear hfz71_2
         try clear hfz71_3
         try clear hfz74_0
         try clear hfz74_1
         try clear hfz74_2
         try clear hfz74_3
         try clear hfz77_0
         try clear hfz77_1
         try clear hfz77_2
         try clear hfz77_3
         try clear hfz80_0
         try clear hfz80_1
         try clear hfz80_2
         try clear hfz80_3
         try clear hfz83_0
         try clear hfz83_1
         try clear hfz83_2
         try clear hfz83_3
         try clear hx201_0
         try clear hx201_1
         try clear hx201_2
         try clear hx201_3
         try clear p2
         try clear p20
         try clear p201
         try clear q2
         try clear q20
         try clear q201
         obtain ⟨kq, x3_11, x4_11, x5_11, rfl, HA, HJ11, HO_3, HO_4, BK202, HB⟩ := hcut
         cases kq with
         | zero => exact absurd HA.out (by simp [coppicelaw13_SparsePlays.j3])
         | succ kj11 =>
          have H := HA.out
          clear HA
          simp only [coppicelaw13_SparsePlays.j3] at H
          replace H := Option.bind_eq_some_iff.mp H
          obtain ⟨t235, A860, H⟩ := H
          replace H : (if t235 = true then ((sparse_Check.f kj11 x3_11 x5_11).bind fun t236 => (if t236 = 0 then (coppicelaw13_SparsePlays.l0 kj11 l0 x3_11 x4_11 x5_11 (wrap64 (x6_1 + 1))) else (some false))) else (some false)) = some r := H
          have A86 := Aside0.mk A860
          clear A860
          by_cases c87 : t235 = true
          ·subst c87
           have H1 : ((sparse_Check.f kj11 x3_11 x5_11).bind fun t236 => (if t236 = 0 then (coppicelaw13_SparsePlays.l0 kj11 l0 x3_11 x4_11 x5_11 (wrap64 (x6_1 + 1))) else (some false))) = some r := by rw [if_pos rfl] at H; exact H
           clear H
           have H := H1
           clear H1
           replace H := Option.bind_eq_some_iff.mp H
           obtain ⟨t236, A880, H⟩ := H
           replace H : (if t236 = 0 then (coppicelaw13_SparsePlays.l0 kj11 l0 x3_11 x4_11 x5_11 (wrap64 (x6_1 + 1))) else (some false)) = some r := H
           have A88 := Aside0.mk A880
           clear A880
           by_cases c89 : t236 = 0
           ·rw [if_pos c89] at H
            have c89b0 : (t236 == 0) = true := beq_iff_eq.mpr c89
            have c89b1 : (t236 != 0) = false := bne_eq_false_iff_eq.mpr c89
            clear c89
            have H' := Aside0.mk H
            clear H
            obtain ⟨Ao90, co90, eo90⟩ := Kd.R_slice HO_3.out
            subst eo90
            obtain ⟨Ao91, co91, eo91⟩ := Kd.R_slice HO_4.out
            subst eo91
            go_wp2_with (first | ((with_reducible refine gate_callee (f := 18) rfl ?_); refine goesL_ (some 178) rfl rfl Tryd.func18 (by kernel_rfl) rfl #[.slice Ao90 x3_11.length co90, .slice Ao91 x4_11.length co91] rfl (by (try simp only [List.map_toArray, List.map_cons, List.map_nil]); first | done | rfl | (simp only [List.length_drop, List.length_take]; rfl)) ?_; (with_reducible refine (coppiceref13_Same.calls kj11 _ _ x3_11 _ _ x4_11 true _ ?side1 ?side2 ?side3 ?side4 A86.out).mono ?_); (case side1 => repeat (first | exact (Kd.R_reads' HO_3.out).2.2 | (with_reducible refine Kd.C_alloc ?_ _) | (with_reducible refine Kd.C_drewN ?_ _) | (with_reducible refine Kd.C_drew ?_))); (case side2 => exact (Kd.R_reads' HO_3.out).2.1); (case side3 => repeat (first | exact (Kd.R_reads' HO_4.out).2.2 | (with_reducible refine Kd.C_alloc ?_ _) | (with_reducible refine Kd.C_drewN ?_ _) | (with_reducible refine Kd.C_drew ?_))); (case side4 => exact (Kd.R_reads' HO_4.out).2.1); rintro e w' ⟨rfl, ⟨nd, rfl⟩⟩; refine ⟨_, rfl, ?_⟩) | (go_at_call 15; (with_reducible refine (sparse_Check.calls kj11 _ _ x3_11 x5_11 t236 _ ?side1 ?side2 A88.out).mono ?_); (case side1 => repeat (first | exact (Kd.R_reads' HO_3.out).2.2 | (with_reducible refine Kd.C_alloc ?_ _) | (with_reducible refine Kd.C_drewN ?_ _) | (with_reducible refine Kd.C_drew ?_))); (case side2 => exact (Kd.R_reads' HO_3.out).2.1); rintro e w92 ⟨rfl, hb⟩; have n0_ := Aside0.mk (Kd.R_below (by (with_reducible repeat (first | apply Kd.R_alloc | apply Kd.R_drewN | apply Kd.R_drew)); exact HO_3.out) hb); have n1_ := Aside0.mk (Kd.R_below (by (with_reducible repeat (first | apply Kd.R_alloc | apply Kd.R_drewN | apply Kd.R_drew)); exact HO_4.out) hb); have n2_ := Aside0.mk (blk_below (g := gb202) (o := .cells #[.int .i64 ((rd_T42 l0 x6_1).f0), .int .i64 ((rd_T42 l0 x6_1).f1), .int .i64 ((rd_T42 l0 x6_1).f2), .string ((rd_T42 l0 x6_1).f3)] 42 (0, 0)) (by (with_reducible repeat (first | refine blk_drewN ?_ _ | refine blk_drew ?_ | refine blk_alloc ?_ _)); exact BK202.out) hb); have n3_ := Aside0.mk (below_step (by repeat (first | (with_reducible first | exact HB.out | apply below_alloc | apply pw_below_drewN | apply below_drew1 | refine below_set ?_ GE202.out) | exact HB.out)) hb); clear HO_3; clear HO_4; clear BK202; clear HB; have HO_3 := n0_; have HO_4 := n1_; have BK202 := n2_; have HB := n3_; clear n0_ n1_ n2_ n3_; (try clear hb); (try clear hb2); (try clear hk); (try clear hi)))
            go_roundg kj11
            case measure => have := HK1.out; have := HJ11.out; omega
            case rel => exact ⟨(x3_11), (x4_11), (x5_11), (wrap64 (x6_1 + 1)), (by first | rfl | (simp; done) | (simp [*]; done)), (by first | rfl | (simp; done) | (simp [*]; done)), H', ⟨by have := HK1.out; have := HJ11.out; omega⟩, ⟨by (with_reducible repeat (first | apply Kd.R_alloc | apply Kd.R_drewN | apply Kd.R_drew)); exact HO_3.out⟩, ⟨by (with_reducible repeat (first | apply Kd.R_alloc | apply Kd.R_drewN | apply Kd.R_drew)); exact HO_4.out⟩, ⟨by repeat (first | (with_reducible first | exact HB.out | apply below_alloc | apply pw_below_drewN | apply below_drew1 | refine below_set ?_ GE202.out) | exact HB.out)⟩⟩
           ·rw [if_neg c89] at H
            have c89b0 : (t236 == 0) = false := beq_eq_false_iff_ne.mpr c89
            have c89b1 : (t236 != 0) = true := bne_iff_ne.mpr c89
            obtain rfl := Option.some.inj H
            obtain ⟨Ao93, co93, eo93⟩ := Kd.R_slice HO_3.out
            subst eo93
            obtain ⟨Ao94, co94, eo94⟩ := Kd.R_slice HO_4.out
            subst eo94
            go_wp2_with (first | ((with_reducible refine gate_callee (f := 18) rfl ?_); refine goesL_ (some 178) rfl rfl Tryd.func18 (by kernel_rfl) rfl #[.slice Ao93 x3_11.length co93, .slice Ao94 x4_11.length co94] rfl (by (try simp only [List.map_toArray, List.map_cons, List.map_nil]); first | done | rfl | (simp only [List.length_drop, List.length_take]; rfl)) ?_; (with_reducible refine (coppiceref13_Same.calls kj11 _ _ x3_11 _ _ x4_11 true _ ?side1 ?side2 ?side3 ?side4 A86.out).mono ?_); (case side1 => repeat (first | exact (Kd.R_reads' HO_3.out).2.2 | (with_reducible refine Kd.C_alloc ?_ _) | (with_reducible refine Kd.C_drewN ?_ _) | (with_reducible refine Kd.C_drew ?_))); (case side2 => exact (Kd.R_reads' HO_3.out).2.1); (case side3 => repeat (first | exact (Kd.R_reads' HO_4.out).2.2 | (with_reducible refine Kd.C_alloc ?_ _) | (with_reducible refine Kd.C_drewN ?_ _) | (with_reducible refine Kd.C_drew ?_))); (case side4 => exact (Kd.R_reads' HO_4.out).2.1); rintro e w' ⟨rfl, ⟨nd, rfl⟩⟩; refine ⟨_, rfl, ?_⟩) | (go_at_call 15; (with_reducible refine (sparse_Check.calls kj11 _ _ x3_11 x5_11 t236 _ ?side1 ?side2 A88.out).mono ?_); (case side1 => repeat (first | exact (Kd.R_reads' HO_3.out).2.2 | (with_reducible refine Kd.C_alloc ?_ _) | (with_reducible refine Kd.C_drewN ?_ _) | (with_reducible refine Kd.C_drew ?_))); (case side2 => exact (Kd.R_reads' HO_3.out).2.1); rintro e w95 ⟨rfl, hb⟩; have n0_ := Aside0.mk (Kd.R_below (by (with_reducible repeat (first | apply Kd.R_alloc | apply Kd.R_drewN | apply Kd.R_drew)); exact HO_3.out) hb); have n1_ := Aside0.mk (Kd.R_below (by (with_reducible repeat (first | apply Kd.R_alloc | apply Kd.R_drewN | apply Kd.R_drew)); exact HO_4.out) hb); have n2_ := Aside0.mk (blk_below (g := gb202) (o := .cells #[.int .i64 ((rd_T42 l0 x6_1).f0), .int .i64 ((rd_T42 l0 x6_1).f1), .int .i64 ((rd_T42 l0 x6_1).f2), .string ((rd_T42 l0 x6_1).f3)] 42 (0, 0)) (by (with_reducible repeat (first | refine blk_drewN ?_ _ | refine blk_drew ?_ | refine blk_alloc ?_ _)); exact BK202.out) hb); have n3_ := Aside0.mk (below_step (by repeat (first | (with_reducible first | exact HB.out | apply below_alloc | apply pw_below_drewN | apply below_drew1 | refine below_set ?_ GE202.out) | exact HB.out)) hb); clear HO_3; clear HO_4; clear BK202; clear HB; have HO_3 := n0_; have HO_4 := n1_; have BK202 := n2_; have HB := n3_; clear n0_ n1_ n2_ n3_; (try clear hb); (try clear hb2); (try clear hk); (try clear hi)))
            go_ret
            exact ⟨by first | rfl | (simp [errW_none, errW_some] <;> rfl) | (simp [*, errW_none, errW_some] <;> rfl), by repeat (first | (with_reducible first | exact HB.out | apply below_alloc | apply pw_below_drewN | apply below_drew1 | refine below_set ?_ GE202.out) | exact HB.out)⟩
          ·replace c87 := Bool.eq_false_iff.mpr c87
           subst c87
           have H1 : (some false) = some r := by rw [if_neg (show ¬ (false = true) by decide)] at H; exact H
           clear H
           have H := H1
           clear H1
           obtain rfl := Option.some.inj H
           obtain ⟨Ao96, co96, eo96⟩ := Kd.R_slice HO_3.out
           subst eo96
           obtain ⟨Ao97, co97, eo97⟩ := Kd.R_slice HO_4.out
           subst eo97
           go_wp2_with (first | ((with_reducible refine gate_callee (f := 18) rfl ?_); refine goesL_ (some 178) rfl rfl Tryd.func18 (by kernel_rfl) rfl #[.slice Ao96 x3_11.length co96, .slice Ao97 x4_11.length co97] rfl (by (try simp only [List.map_toArray, List.map_cons, List.map_nil]); first | done | rfl | (simp only [List.length_drop, List.length_take]; rfl)) ?_; (with_reducible refine (coppiceref13_Same.calls kj11 _ _ x3_11 _ _ x4_11 false _ ?side1 ?side2 ?side3 ?side4 A86.out).mono ?_); (case side1 => repeat (first | exact (Kd.R_reads' HO_3.out).2.2 | (with_reducible refine Kd.C_alloc ?_ _) | (with_reducible refine Kd.C_drewN ?_ _) | (with_reducible refine Kd.C_drew ?_))); (case side2 => exact (Kd.R_reads' HO_3.out).2.1); (case side3 => repeat (first | exact (Kd.R_reads' HO_4.out).2.2 | (with_reducible refine Kd.C_alloc ?_ _) | (with_reducible refine Kd.C_drewN ?_ _) | (with_reducible refine Kd.C_drew ?_))); (case side4 => exact (Kd.R_reads' HO_4.out).2.1); rintro e w' ⟨rfl, ⟨nd, rfl⟩⟩; refine ⟨_, rfl, ?_⟩))
           go_ret
           exact ⟨by first | rfl | (simp [errW_none, errW_some] <;> rfl) | (simp [*, errW_none, errW_some] <;> rfl), by repeat (first | (with_reducible first | exact HB.out | apply below_alloc | apply pw_below_drewN | apply below_drew1 | refine below_set ?_ GE202.out) | exact HB.out)⟩
      ·rw [if_neg c8] at H
       exact absurd H (by simp)
     ·rw [if_neg c7] at H
      have c7b0 : decide (x6_1 < (l0.length : Int)) = false := decide_eq_false c7
      clear c7
      obtain rfl := Option.some.inj H
      go_wp2
      go_ret
      exact ⟨by first | rfl | (simp [errW_none, errW_some] <;> rfl) | (simp [*, errW_none, errW_some] <;> rfl), by repeat (first | (with_reducible first | exact HB.out | apply below_alloc | apply pw_below_drewN | apply below_drew1) | exact HB.out)⟩
 ·replace c3 := Bool.eq_false_iff.mpr c3
  subst c3
  have H1 : (some false) = some r := by rw [if_neg (show ¬ (false = true) by decide)] at H; exact H
  clear H
  have H := H1
  clear H1
  obtain rfl := Option.some.inj H
  go_enter Tryd.func6, Tryd.ntmps6
  go_wp2_with (first | ((with_reducible refine gate_callee (f := 9) rfl ?_); refine goesL_ (some 28) rfl rfl Tryd.func9 (by kernel_rfl) rfl #[] rfl (by (try simp only [List.map_toArray, List.map_cons, List.map_nil]); first | done | rfl | (simp only [List.length_drop, List.length_take]; rfl)) ?_; (with_reducible refine (coppicelaw13_awake.calls k  false _ A2.out).mono ?_); rintro e w98 ⟨rfl, hb⟩; refine ⟨_, rfl, ?_⟩; have n0_ := Aside0.mk (below_step (by repeat (first | (with_reducible first | exact HB.out | apply below_alloc | apply pw_below_drewN | apply below_drew1) | exact HB.out)) hb); clear HB; have HB := n0_; clear n0_; (try clear hb); (try clear hb2); (try clear hk); (try clear hi)))
  go_ret
  exact ⟨by first | rfl | (simp [errW_none, errW_some] <;> rfl) | (simp [*, errW_none, errW_some] <;> rfl), by repeat (first | (with_reducible first | exact HB.out | apply below_alloc | apply pw_below_drewN | apply below_drew1) | exact HB.out)⟩

/-- The bounds of a value of struct type 42. -/
def wf42 (x : S42) : Prop := (Lit.int .i64 x.f0).wf = true ∧ (Lit.int .i64 x.f1).wf = true ∧ (Lit.int .i64 x.f2).wf = true ∧ x.f3.size ≤ maxLen
/-- THE ONE PURE STATEMENT of coppicelaw13_SparsePlays. -/
def coppicelaw13_SparsePlays.Pure : Prop := ∀ (x0 : List (S42)), (x0.length ≤ maxLen ∧ ∀ y0 ∈ x0, wf42 y0) → ∃ k, coppicelaw13_SparsePlays.f k x0 = some true

end Go.Proofs.YtgnffienfjigiaaDoor.PA
