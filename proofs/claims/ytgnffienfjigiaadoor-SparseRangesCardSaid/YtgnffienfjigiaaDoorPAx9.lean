-- WRITTEN BY a program of this session (pp.sh)
import Derived.Test.YtgnffienfjigiaaDoorPAx0
import Derived.Test.YtgnffienfjigiaaDoorPAx2
namespace Go.Proofs.YtgnffienfjigiaaDoor.PA
open Go.RowKit Go.Proofs.YtgnffienfjigiaaDoorW.PrintWords Go.Proofs.YtgnffienfjigiaaDoorW.PrintLast Go.Proofs.YtgnffienfjigiaaDoorW.PrintMore Go.Proofs.YtgnffienfjigiaaDoor.Plain
attribute [local go_sem] max2_int min2_int max_two min_two max_three min_three max_four min_four binOp_leq_s binOp_gtr_s binOp_geq_s lit_byte   -- for this text's walks alone
set_option linter.unusedVariables false
set_option linter.unusedSimpArgs false

/-! ### sparse_Ranges: function 14 -/
def sparse_Ranges.l0 : Nat → Int → List (S37) → List (S39) → Int → Int → Option ((List (S37)) × Int)
 | 0, _, _, _, _, _ => none
 | k + 1, x1, x7, x19, x20, x21 => if x21 < x20 then (if 0 ≤ x21 then (if x21 < (x19.length : Int) then (if (x7.length : Int) > 0 then (if 0 ≤ (wrap64 ((x7.length : Int) - 1)) then (if (wrap64 ((x7.length : Int) - 1)) < (x7.length : Int) then (if ((rd_T37 x7 (wrap64 ((x7.length : Int) - 1))).f1) = (wrap64 (((rd_T39 x19 x21).f0) * 64)) then (sparse_Ranges.l0 k x1 (x7.set ((wrap64 ((x7.length : Int) - 1)) : Int).toNat (⟨(rd_T37 x7 (wrap64 ((x7.length : Int) - 1))).f0, wrap64 ((wrap64 (((rd_T39 x19 x21).f0) * 64)) + (mn 64 (wrap64 (x1 - (wrap64 (((rd_T39 x19 x21).f0) * 64))))))⟩ : S37)) x19 x20 (wrap64 (x21 + 1))) else (if x7.length < 8796093022208 then (sparse_Ranges.l0 k x1 (x7 ++ [(⟨wrap64 (((rd_T39 x19 x21).f0) * 64), wrap64 ((wrap64 (((rd_T39 x19 x21).f0) * 64)) + (mn 64 (wrap64 (x1 - (wrap64 (((rd_T39 x19 x21).f0) * 64))))))⟩ : S37)]) x19 x20 (wrap64 (x21 + 1))) else (none))) else (none)) else (none)) else (if x7.length < 8796093022208 then (sparse_Ranges.l0 k x1 (x7 ++ [(⟨wrap64 (((rd_T39 x19 x21).f0) * 64), wrap64 ((wrap64 (((rd_T39 x19 x21).f0) * 64)) + (mn 64 (wrap64 (x1 - (wrap64 (((rd_T39 x19 x21).f0) * 64))))))⟩ : S37)]) x19 x20 (wrap64 (x21 + 1))) else (none))) else (none)) else (none)) else (some (x7, 0))
def sparse_Ranges.f (k : Nat) (l0 : List (S39)) (a1 : Int) : Option ((List (S37)) × Int) := (sparse_Check.f k l0 a1).bind fun t126 => (if t126 = 0 then (sparse_Ranges.l0 k a1 ([] : List (S37)) l0 (l0.length : Int) 0) else (some (([] : List (S37)), t126)))
theorem sparse_Ranges.mono_l : ∀ k, (∀ y0 y1 y2 y3 y4, LeO (sparse_Ranges.l0 k y0 y1 y2 y3 y4) (sparse_Ranges.l0 (k + 1) y0 y1 y2 y3 y4))
 | 0 => fun _ _ _ _ _ r h => by simp [sparse_Ranges.l0] at h
 | k + 1 => by
  have ih0 := sparse_Ranges.mono_l k
  ·intro y0 y1 y2 y3 y4
   unfold sparse_Ranges.l0
   repeat' first
   | (with_reducible exact ih0 _ _ _ _ _)
   | (with_reducible exact sparse_Check.mono _ _ _)
   | (with_reducible exact LeO.refl _)
   | (with_reducible exact LeO.none _)
   | (with_reducible refine LeO.ite ?_ ?_)
   | (with_reducible refine LeO.bind ?_ (fun _ => ?_))
   | exact ih0 _ _ _ _ _
   | exact sparse_Check.mono _ _ _
   | exact LeO.none _
   | refine LeO.ite ?_ ?_
   | refine LeO.bind ?_ (fun _ => ?_)
theorem sparse_Ranges.mono : ∀ a0 a1 k, LeO (sparse_Ranges.f k a0 a1) (sparse_Ranges.f (k + 1) a0 a1) := by
 intro a0 a1 k
 have ih0 := sparse_Ranges.mono_l k
 unfold sparse_Ranges.f
 repeat' first
   | (with_reducible exact ih0 _ _ _ _ _)
   | (with_reducible exact sparse_Check.mono _ _ _)
   | (with_reducible exact LeO.refl _)
   | (with_reducible exact LeO.none _)
   | (with_reducible refine LeO.ite ?_ ?_)
   | (with_reducible refine LeO.bind ?_ (fun _ => ?_))
   | exact ih0 _ _ _ _ _
   | exact sparse_Check.mono _ _ _
   | exact LeO.none _
   | refine LeO.ite ?_ ?_
   | refine LeO.bind ?_ (fun _ => ?_)
set_option maxHeartbeats 8000000 in
set_option maxRecDepth 100000 in
theorem sparse_Ranges.calls (k : Nat) (A0 : Option Addr) (c0 : Nat) (l0 : List (S39)) (a1 : Int) (r1 : List (S37)) (r2 : Int) (w : World) (hr0 : Kd.C k39 w A0 l0.length l0) (hc0 : l0.length ≤ c0) (h : sparse_Ranges.f k l0 a1 = some (r1, r2)) :
  Calls Tryd.prog 14 #[.slice A0 l0.length c0, .int .i64 a1] w fun e w' => ∃ v0_ : Value, e = .returned (.tuple #[v0_, .int .i64 r2]) ∧ Kd.R k37 37 w' w.heap.size (fun _ => True) v0_ r1 ∧ Below w.heap.size w w' := by
 have hu39 := Tryd.underlying39
 have hu37 := Tryd.underlying37
 have HR0 := Aside0.mk hr0
 have HC0 := Aside0.mk hc0
 clear hr0 hc0
 have HB := Aside0.mk (Below.refl w.heap.size w)
 have H : ((sparse_Check.f k l0 a1).bind fun t126 => (if t126 = 0 then (sparse_Ranges.l0 k a1 ([] : List (S37)) l0 (l0.length : Int) 0) else (some (([] : List (S37)), t126)))) = some (r1, r2) := h
 clear h
 replace H := Option.bind_eq_some_iff.mp H
 obtain ⟨t126, A30, H⟩ := H
 replace H : (if t126 = 0 then (sparse_Ranges.l0 k a1 ([] : List (S37)) l0 (l0.length : Int) 0) else (some (([] : List (S37)), t126))) = some (r1, r2) := H
 have A3 := Aside0.mk A30
 clear A30
 by_cases c4 : t126 = 0
 ·rw [if_pos c4] at H
  have c4b0 : (t126 == 0) = true := beq_iff_eq.mpr c4
  have c4b1 : (t126 != 0) = false := bne_eq_false_iff_eq.mpr c4
  clear c4
  have H' := Aside0.mk H
  clear H
  go_enter Tryd.func14, Tryd.ntmps14
  go_wp2_with (first | ((with_reducible refine gate_callee (f := 15) rfl ?_); refine goesL_ (some 15) rfl rfl Tryd.func15 (by kernel_rfl) rfl #[.slice A0 l0.length c0, .int .i64 a1] rfl (by (try simp only [List.map_toArray, List.map_cons, List.map_nil]); first | done | rfl | (simp only [List.length_drop, List.length_take]; rfl)) ?_; (with_reducible refine (sparse_Check.calls k _ _ l0 a1 t126 _ ?side1 ?side2 A3.out).mono ?_); (case side1 => repeat (first | exact HR0.out | (with_reducible refine Kd.C_alloc ?_ _) | (with_reducible refine Kd.C_drewN ?_ _) | (with_reducible refine Kd.C_drew ?_))); (case side2 => exact HC0.out); rintro e w5 ⟨rfl, hb⟩; refine ⟨_, rfl, ?_⟩; have n0_ := Aside0.mk (below_step (by repeat (first | (with_reducible first | exact HB.out | apply below_alloc | apply pw_below_drewN | apply below_drew1) | exact HB.out)) hb); clear HB; have HB := n0_; clear n0_; (try clear hb); (try clear hb2); (try clear hk); (try clear hi)))
  go_loopg [7, 21] k (fun kq v7 v21 w' => ∃ (x7_1 : List (S37)) (x21_1 : Int), v21 = .int .i64 x21_1 ∧ Aside0 (sparse_Ranges.l0 kq a1 x7_1 l0 (l0.length : Int) x21_1 = some (r1, r2)) ∧ Aside0 (kq ≤ k) ∧ Aside0 (Kd.R k37 37 w' w.heap.size (fun _ => True) v7 x7_1) ∧ Aside0 (Below w.heap.size w w'))
  case atStart => exact ⟨(([] : List (S37))), (0), (by first | rfl | (simp; done) | (simp [*]; done)), H', ⟨Nat.le_refl _⟩, ⟨by first | exact Kd.R_nil _ _ _ _ _ | exact Kd.N_nil _ _ _ _ _ | exact Kd.V_nil _ _ _ _ _ | exact Kd.Q_nil _ _ _ _ _ | exact Kd.S_nil _ _ _ _ _⟩, ⟨by repeat (first | (with_reducible first | exact HB.out | apply below_alloc | apply pw_below_drewN | apply below_drew1) | exact HB.out)⟩⟩
  case round =>
   clear H'
   try clear c1
   try clear p2
   try clear c4
   try clear c4b0
   try clear c4b1
   obtain ⟨x7_1, x21_1, rfl, HA, HK1, HO_7, HB⟩ := hrel
   cases gk with
   | zero => exact absurd HA.out (by simp [sparse_Ranges.l0])
   | succ k1 =>
    have H := HA.out
    clear HA
    simp only [sparse_Ranges.l0] at H
    by_cases c6 : x21_1 < (l0.length : Int)
    ·rw [if_pos c6] at H
     have c6b0 : decide (x21_1 < (l0.length : Int)) = true := decide_eq_true c6
     clear c6
     by_cases c7 : 0 ≤ x21_1
     ·rw [if_pos c7] at H
      have c7b0 : decide (0 ≤ x21_1) = true := decide_eq_true c7
      clear c7
      by_cases c8 : x21_1 < (l0.length : Int)
      ·rw [if_pos c8] at H
       have c8b0 : decide (x21_1 < (l0.length : Int)) = true := decide_eq_true c8
       clear c8
       obtain ⟨ji9, hji9⟩ : ∃ j_ : Int, (mn 64 (wrap64 (a1 - (wrap64 (((rd_T39 l0 x21_1).f0) * 64))))) = j_ := ⟨_, rfl⟩
       replace H : (if (x7_1.length : Int) > 0 then (if 0 ≤ (wrap64 ((x7_1.length : Int) - 1)) then (if (wrap64 ((x7_1.length : Int) - 1)) < (x7_1.length : Int) then (if ((rd_T37 x7_1 (wrap64 ((x7_1.length : Int) - 1))).f1) = (wrap64 (((rd_T39 l0 x21_1).f0) * 64)) then (sparse_Ranges.l0 k1 a1 (x7_1.set ((wrap64 ((x7_1.length : Int) - 1)) : Int).toNat (⟨(rd_T37 x7_1 (wrap64 ((x7_1.length : Int) - 1))).f0, wrap64 ((wrap64 (((rd_T39 l0 x21_1).f0) * 64)) + (ji9))⟩ : S37)) l0 (l0.length : Int) (wrap64 (x21_1 + 1))) else (if x7_1.length < 8796093022208 then (sparse_Ranges.l0 k1 a1 (x7_1 ++ [(⟨wrap64 (((rd_T39 l0 x21_1).f0) * 64), wrap64 ((wrap64 (((rd_T39 l0 x21_1).f0) * 64)) + (ji9))⟩ : S37)]) l0 (l0.length : Int) (wrap64 (x21_1 + 1))) else (none))) else (none)) else (none)) else (if x7_1.length < 8796093022208 then (sparse_Ranges.l0 k1 a1 (x7_1 ++ [(⟨wrap64 (((rd_T39 l0 x21_1).f0) * 64), wrap64 ((wrap64 (((rd_T39 l0 x21_1).f0) * 64)) + (ji9))⟩ : S37)]) l0 (l0.length : Int) (wrap64 (x21_1 + 1))) else (none))) = some (r1, r2) := by first | (rw [hji9] at H; exact H) | (simp only [hji9] at H ⊢; exact H)
       have hji9_ : (if (wrap64 (a1 - (wrap64 (((rd_T39 l0 x21_1).f0) * 64)))) < 64 then (wrap64 (a1 - (wrap64 (((rd_T39 l0 x21_1).f0) * 64)))) else 64) = ji9 := hji9
       by_cases c10 : (x7_1.length : Int) > 0
       ·rw [if_pos c10] at H
        have c10b0 : decide (0 < (x7_1.length : Int)) = true := decide_eq_true c10
        have c10b1 : decide (0 < x7_1.length) = true := decide_eq_true (by omega)
        clear c10
        obtain ⟨ji11, hji11⟩ : ∃ j_ : Int, (wrap64 ((x7_1.length : Int) - 1)) = j_ := ⟨_, rfl⟩
        replace H : (if 0 ≤ (ji11) then (if (ji11) < (x7_1.length : Int) then (if ((rd_T37 x7_1 (ji11)).f1) = (wrap64 (((rd_T39 l0 x21_1).f0) * 64)) then (sparse_Ranges.l0 k1 a1 (x7_1.set ((ji11) : Int).toNat (⟨(rd_T37 x7_1 (ji11)).f0, wrap64 ((wrap64 (((rd_T39 l0 x21_1).f0) * 64)) + (ji9))⟩ : S37)) l0 (l0.length : Int) (wrap64 (x21_1 + 1))) else (if x7_1.length < 8796093022208 then (sparse_Ranges.l0 k1 a1 (x7_1 ++ [(⟨wrap64 (((rd_T39 l0 x21_1).f0) * 64), wrap64 ((wrap64 (((rd_T39 l0 x21_1).f0) * 64)) + (ji9))⟩ : S37)]) l0 (l0.length : Int) (wrap64 (x21_1 + 1))) else (none))) else (none)) else (none)) = some (r1, r2) := by first | (rw [hji11] at H; exact H) | (simp only [hji11] at H ⊢; exact H)
        have hji11w : (IntKind.i64.wrap ((x7_1.length : Int) - 1)) = ji11 := (i64_w _).trans hji11
        by_cases c12 : 0 ≤ (ji11)
        ·rw [if_pos c12] at H
         have c12b0 : decide (0 ≤ (ji11)) = true := decide_eq_true c12
         clear c12
         by_cases c13 : (ji11) < (x7_1.length : Int)
         ·rw [if_pos c13] at H
          have c13b0 : decide ((ji11) < (x7_1.length : Int)) = true := decide_eq_true c13
          clear c13
          by_cases c14 : ((rd_T37 x7_1 (ji11)).f1) = (wrap64 (((rd_T39 l0 x21_1).f0) * 64))
          ·rw [if_pos c14] at H
           have c14b0 : (((rd_T37 x7_1 (ji11)).f1) == (wrap64 (((rd_T39 l0 x21_1).f0) * 64))) = true := beq_iff_eq.mpr c14
           have c14b1 : (((rd_T37 x7_1 (ji11)).f1) != (wrap64 (((rd_T39 l0 x21_1).f0) * 64))) = false := bne_eq_false_iff_eq.mpr c14
           clear c14
           obtain ⟨y130, hy130⟩ : ∃ y_ : List (S37), y_ = (x7_1.set ((ji11) : Int).toNat (⟨(rd_T37 x7_1 (ji11)).f0, wrap64 ((wrap64 (((rd_T39 l0 x21_1).f0) * 64)) + (ji9))⟩ : S37)) := ⟨_, rfl⟩
           replace H : (sparse_Ranges.l0 k1 a1 y130 l0 (l0.length : Int) (wrap64 (x21_1 + 1))) = some (r1, r2) := by first | (rw [hy130]; with_reducible exact H) | (have H2_ := (Option.bind_some _ _).symm.trans H; rw [hy130]; with_reducible exact H2_) | (have H2_ := (Option.bind_some _ _).symm.trans H; with_reducible exact H2_) | with_reducible exact H | (rw [hy130]; exact H) | exact H
           have Ny130 := Aside0.mk hy130
           clear hy130
           have H' := Aside0.mk H
           clear H
           have p127 : 0 ≤ (x21_1 : Int) := of_decide_eq_true (by first | (with_reducible assumption) | assumption)
           have q127 : x21_1 < (l0.length : Int) := of_decide_eq_true (by first | (with_reducible assumption) | assumption)
           obtain ⟨ad127, e127, hx127_0, hx127_1⟩ := at_T39 HR0.out x21_1 p127 q127
           cases e127
           replace hx127_0 := (HB.out.cell (World.block_lt_of_cell? w _ hx127_0)).trans hx127_0
           replace hx127_1 := (HB.out.cell (World.block_lt_of_cell? w _ hx127_1)).trans hx127_1
           replace p127 := eq_true p127
           replace q127 := eq_true q127
           go_wp2_with (first | ((with_reducible refine gate_dst (N := 9) rfl ?_); refine box_event ?hg (N := 9) ?hd (cs := #[.int .i64 0, .string (⟨#[]⟩ : ByteArray)]) (t := 39) ?hr ?_; (case hd => rfl); (case hg => rfl); (case hr => first | (go_simp; done) | (go_simp; rfl)); intro gb128 hg w16 hbox hb; have n0_ := Aside0.mk (Kd.R_below (by (with_reducible repeat (first | apply Kd.R_alloc | apply Kd.R_drewN | apply Kd.R_drew)); exact HO_7.out) hb); have n1_ := Aside0.mk (below_step (by repeat (first | (with_reducible first | exact HB.out | apply below_alloc | apply pw_below_drewN | apply below_drew1) | exact HB.out)) hb); have n2_ := Aside0.mk (hbox); have n3_ := Aside0.mk ((by rw [hg]; exact (below_size (by repeat (first | (with_reducible first | exact HB.out | apply below_alloc | apply pw_below_drewN | apply below_drew1) | exact HB.out))) : w.heap.size ≤ gb128)); have n4_ := Aside0.mk ((by rw [hg]; exact (below_size (by repeat (first | (with_reducible first | exact HB.out | apply below_alloc | apply pw_below_drewN | apply below_drew1) | exact HB.out))) : w.heap.size ≤ gb128)); clear HO_7; clear HB; have HO_7 := n0_; have HB := n1_; have BK128 := n2_; have GW128 := n3_; have GE128 := n4_; clear n0_ n1_ n2_ n3_ n4_; clear hb hbox hg; have hcz17_0 : w16.cell? ⟨gb128, 0, none⟩ = some (.int .i64 0) := (blk_cell BK128.out 0).trans rfl; have hcz17_1 : w16.cell? ⟨gb128, 1, none⟩ = some (.string (⟨#[]⟩ : ByteArray)) := (blk_cell BK128.out 1).trans rfl; have hfz17_0 := blk_frozen BK128.out 0; have hfz17_1 := blk_frozen BK128.out 1) | ((with_reducible refine gate_store (t := 39) (p := 9) rfl ?_); refine store_event (t := 39) (p := 9) (v := ?vo_w18) (w1 := ((w16.setCell ⟨gb128, 0, none⟩ (.int .i64 ((rd_T39 l0 x21_1).f0))).setCell ⟨gb128, 1, none⟩ (.string ((rd_T39 l0 x21_1).f1)))) ?hg ?ho ?hn ?hr ?_; (case ho => rfl); (case hg => rfl); (case hn => rfl); (case hr => first | (go_simp; done) | (go_simp; rfl)); intro w18 hw; have n0_ : Aside0 (Kd.R k37 37 w18 w.heap.size (fun _ => True) u7 x7_1) := ⟨(by rw [hw]; exact (by (with_reducible repeat (first | apply Kd.R_alloc | apply Kd.R_drewN | apply Kd.R_drew)); exact Kd.R_mono (Kd.R_far (p := ⟨gb128, 1, none⟩) (Kd.R_far (p := ⟨gb128, 0, none⟩) (Kd.R_types HO_7.out BK128.out (by decide)) (fun _ hk => hk.2) (.int .i64 ((rd_T39 l0 x21_1).f0))) (fun _ hk => hk.2) (.string ((rd_T39 l0 x21_1).f1))) (fun _ hk => trivial)))⟩; have n1_ : Aside0 (w18.heap[gb128]? = some (.cells #[.int .i64 ((rd_T39 l0 x21_1).f0), .string ((rd_T39 l0 x21_1).f1)] 39 (0, 0))) := ⟨(by rw [hw]; exact (by (with_reducible repeat (first | refine blk_drewN ?_ _ | refine blk_drew ?_ | refine blk_alloc ?_ _)); refine blk_put (cs := #[.int .i64 ((rd_T39 l0 x21_1).f0), .string (⟨#[]⟩ : ByteArray)]) ?_ 1 _ rfl; (with_reducible repeat (first | refine blk_drewN ?_ _ | refine blk_drew ?_ | refine blk_alloc ?_ _)); refine blk_put (cs := #[.int .i64 0, .string (⟨#[]⟩ : ByteArray)]) ?_ 0 _ rfl; (with_reducible repeat (first | refine blk_drewN ?_ _ | refine blk_drew ?_ | refine blk_alloc ?_ _)); exact BK128.out))⟩; have n2_ : Aside0 (Below w.heap.size w w18) := ⟨(by rw [hw]; exact (by repeat (first | (with_reducible first | exact HB.out | apply below_alloc | apply pw_below_drewN | apply below_drew1 | refine below_set ?_ GE128.out) | exact HB.out)))⟩; clear hw; clear HO_7; clear BK128; clear HB; have HO_7 := n0_; have BK128 := n1_; have HB := n2_; clear n0_ n1_ n2_; have hcz19_0 : w18.cell? ⟨gb128, 0, none⟩ = some (.int .i64 ((rd_T39 l0 x21_1).f0)) := (blk_cell BK128.out 0).trans rfl; have hcz19_1 : w18.cell? ⟨gb128, 1, none⟩ = some (.string ((rd_T39 l0 x21_1).f1)) := (blk_cell BK128.out 1).trans rfl; have hfz19_0 := blk_frozen BK128.out 0; have hfz19_1 := blk_frozen BK128.out 1; obtain ⟨Ao20, co20, eo20⟩ := Kd.R_slice HO_7.out; subst eo20; have p129 : 0 ≤ ((ji11) : Int) := of_decide_eq_true (by first | (with_reducible assumption) | assumption); have q129 : (ji11) < (x7_1.length : Int) := of_decide_eq_true (by first | (with_reducible assumption) | assumption); obtain ⟨ad129, e129, hx129_0, hx129_1⟩ := at_T37 (Kd.R_reads' HO_7.out).2.2 (ji11) p129 q129; cases e129; replace p129 := eq_true p129; replace q129 := eq_true q129; have p15 : 0 ≤ ((ji11) : Int) := of_decide_eq_true (by first | (with_reducible assumption) | assumption); have q15 : ((ji11) : Int) < ((x7_1.length : Int) : Int) := of_decide_eq_true (by first | (with_reducible assumption) | assumption); obtain ⟨go15, co15, eo15, gb15, gl15, cl15, HG15⟩ := Kd.R_form HO_7.out (by omega); (first | cases eo15 | (injection eo15 with ea_ en_ ec_; (first | subst ea_ | (injection ea_ with ea_; subst ea_)); subst ec_; clear en_)); have GB15 := Aside0.mk gb15; have GG15 := Aside0.mk HG15; clear gb15 gl15 HG15; (first | simp only [add_plain] at hx129_0 | skip); (first | simp only [add_plain] at hx129_1 | skip); obtain ⟨ce15, hcl15, hM15, hcc15, hfr15⟩ := Kd.R_elem HO_7.out z37 ((ji11) : Int) p15 q15; obtain rfl := k37_openM hM15; have hx15_0 : w18.cell? ⟨go15, ((ji11) : Int).toNat * 2, none⟩ = some (.int .i64 ((rd_T37 x7_1 (ji11)).f0)) := hcc15 0 _ rfl; have hx15_1 : w18.cell? ⟨go15, ((ji11) : Int).toNat * 2 + 1, none⟩ = some (.int .i64 ((rd_T37 x7_1 (ji11)).f1)) := hcc15 1 _ rfl; have hf15_0 : w18.frozen? ⟨go15, ((ji11) : Int).toNat * 2, none⟩ = false := hfr15 0; have hf15_1 : w18.frozen? ⟨go15, ((ji11) : Int).toNat * 2 + 1, none⟩ = false := hfr15 1; clear hcl15 hcc15 hfr15 hM15; replace p15 := eq_true p15; replace q15 := eq_true q15; have HX21 := Aside0.mk (show Kd.R k37 37 w18 w.heap.size (fun _ => True) (.slice (some ⟨go15, 0, none⟩) x7_1.length co20) x7_1 from (by (with_reducible repeat (first | apply Kd.R_alloc | apply Kd.R_drewN | apply Kd.R_drew)); exact HO_7.out)); obtain ⟨ce21, hcl21, hM21, hcc21, hfr21⟩ := Kd.R_elem HX21.out z37 ((ji11) : Int) (of_decide_eq_true (by first | (with_reducible assumption) | assumption)) (by have h_ : ((ji11) : Int) < ((x7_1.length : Int) : Int) := of_decide_eq_true (by first | (with_reducible assumption) | assumption); first | exact h_ | (have e_ := (Kd.R_reads' HO_7.out).1; omega) | simpa using h_); obtain rfl := k37_openM hM21; have HP21 := Kd.R_seg HX21.out ((ji11) : Int) (of_decide_eq_true (by first | (with_reducible assumption) | assumption)) (by have h_ : ((ji11) : Int) < ((x7_1.length : Int) : Int) := of_decide_eq_true (by first | (with_reducible assumption) | assumption); first | exact h_ | (have e_ := (Kd.R_reads' HO_7.out).1; omega) | simpa using h_) (seg := [.int .i64 (wrap64 ((wrap64 (((rd_T39 l0 x21_1).f0) * 64)) + (ji9)))]) (j := 1) hcl21 hcc21 (show 2 ≤ 2 from by decide) (x' := (⟨(rd_T37 x7_1 (ji11)).f0, wrap64 ((wrap64 (((rd_T39 l0 x21_1).f0) * 64)) + (ji9))⟩ : S37)) (k37_mkM _ _ _ (⟨(rd_T37 x7_1 (ji11)).f0, wrap64 ((wrap64 (((rd_T39 l0 x21_1).f0) * 64)) + (ji9))⟩ : S37) ) (fun _ hk => hk); have hx21_1 := hcc21 1 _ rfl; (try simp only [show (k37).sz = 2 from rfl, Nat.mul_one, Nat.add_zero] at hx21_1); have hf21_1 := hfr21 1; (try simp only [show (k37).sz = 2 from rfl, Nat.mul_one, Nat.add_zero] at hf21_1); clear hcl21 hcc21 hfr21 hM21) | ((with_reducible refine gate_store (t := 3) (p := 53) rfl ?_); refine store_event (t := 3) (p := 53) (v := ?vo_w22) (w1 := (w18.setCell ⟨go15, ((ji11) : Int).toNat * 2 + 1, none⟩ (.int .i64 (wrap64 ((wrap64 (((rd_T39 l0 x21_1).f0) * 64)) + (ji9)))))) ?hg ?ho ?hn ?hr ?_; (case ho => rfl); (case hg => rfl); (case hn => rfl); (case hr => first | (go_simp; done) | (go_simp; rfl)); intro w22 hw; have hg : w18.grownBy w22 (some go15) := (by rw [hw]; exact HP21.2); have hp_ : Kd.R k37 37 w22 w.heap.size (fun _ => True) (.slice (some ⟨go15, 0, none⟩) x7_1.length co20) y130 := (by rw [hw, Ny130.out]; exact HP21.1); clear HP21; have n0_ := Aside0.mk (hp_); have n1_ := Aside0.mk (blk_grown (g := gb128) (o := .cells #[.int .i64 ((rd_T39 l0 x21_1).f0), .string ((rd_T39 l0 x21_1).f1)] 39 (0, 0)) (by (with_reducible repeat (first | refine blk_drewN ?_ _ | refine blk_drew ?_ | refine blk_alloc ?_ _)); exact BK128.out) hg (Kd.R_ne HO_7.out BK128.out (by decide))); have n2_ := Aside0.mk ((by rw [hw]; exact below_set (HB.out) GB15.out : Below w.heap.size w w22)); clear HO_7; clear BK128; clear HB; have HO_7 := n0_; have BK128 := n1_; have HB := n2_; clear n0_ n1_ n2_; clear hg hw hp_))
           go_roundg k1
           case measure => have := HK1.out; omega
           case rel => exact ⟨(y130), (wrap64 (x21_1 + 1)), (by first | rfl | (simp; done) | (simp [*]; done)), H', ⟨by have := HK1.out; omega⟩, ⟨by (with_reducible repeat (first | apply Kd.R_alloc | apply Kd.R_drewN | apply Kd.R_drew)); exact HO_7.out⟩, ⟨by repeat (first | (with_reducible first | exact HB.out | apply below_alloc | apply pw_below_drewN | apply below_drew1 | refine below_set ?_ GE128.out) | exact HB.out)⟩⟩
          ·rw [if_neg c14] at H
           have c14b0 : (((rd_T37 x7_1 (ji11)).f1) == (wrap64 (((rd_T39 l0 x21_1).f0) * 64))) = false := beq_eq_false_iff_ne.mpr c14
           have c14b1 : (((rd_T37 x7_1 (ji11)).f1) != (wrap64 (((rd_T39 l0 x21_1).f0) * 64))) = true := bne_iff_ne.mpr c14
           by_cases c23 : x7_1.length < 8796093022208
           ·rw [if_pos c23] at H
            have LMc23 := Aside0.mk c23
            clear c23
            obtain ⟨y131, hy131⟩ : ∃ y_ : List (S37), y_ = (x7_1 ++ [(⟨wrap64 (((rd_T39 l0 x21_1).f0) * 64), wrap64 ((wrap64 (((rd_T39 l0 x21_1).f0) * 64)) + (ji9))⟩ : S37)]) := ⟨_, rfl⟩
            replace H : (sparse_Ranges.l0 k1 a1 y131 l0 (l0.length : Int) (wrap64 (x21_1 + 1))) = some (r1, r2) := by first | (rw [hy131]; with_reducible exact H) | (have H2_ := (Option.bind_some _ _).symm.trans H; rw [hy131]; with_reducible exact H2_) | (have H2_ := (Option.bind_some _ _).symm.trans H; with_reducible exact H2_) | with_reducible exact H | (rw [hy131]; exact H) | exact H
            have Ny131 := Aside0.mk hy131
            clear hy131
            have H' := Aside0.mk H
            clear H
            have p127 : 0 ≤ (x21_1 : Int) := of_decide_eq_true (by first | (with_reducible assumption) | assumption)
            have q127 : x21_1 < (l0.length : Int) := of_decide_eq_true (by first | (with_reducible assumption) | assumption)
            obtain ⟨ad127, e127, hx127_0, hx127_1⟩ := at_T39 HR0.out x21_1 p127 q127
            cases e127
            replace hx127_0 := (HB.out.cell (World.block_lt_of_cell? w _ hx127_0)).trans hx127_0
            replace hx127_1 := (HB.out.cell (World.block_lt_of_cell? w _ hx127_1)).trans hx127_1
            replace p127 := eq_true p127
            replace q127 := eq_true q127
            go_wp2_with (first | ((with_reducible refine gate_dst (N := 9) rfl ?_); refine box_event ?hg (N := 9) ?hd (cs := #[.int .i64 0, .string (⟨#[]⟩ : ByteArray)]) (t := 39) ?hr ?_; (case hd => rfl); (case hg => rfl); (case hr => first | (go_simp; done) | (go_simp; rfl)); intro gb128 hg w24 hbox hb; have n0_ := Aside0.mk (Kd.R_below (by (with_reducible repeat (first | apply Kd.R_alloc | apply Kd.R_drewN | apply Kd.R_drew)); exact HO_7.out) hb); have n1_ := Aside0.mk (below_step (by repeat (first | (with_reducible first | exact HB.out | apply below_alloc | apply pw_below_drewN | apply below_drew1) | exact HB.out)) hb); have n2_ := Aside0.mk (hbox); have n3_ := Aside0.mk ((by rw [hg]; exact (below_size (by repeat (first | (with_reducible first | exact HB.out | apply below_alloc | apply pw_below_drewN | apply below_drew1) | exact HB.out))) : w.heap.size ≤ gb128)); have n4_ := Aside0.mk ((by rw [hg]; exact (below_size (by repeat (first | (with_reducible first | exact HB.out | apply below_alloc | apply pw_below_drewN | apply below_drew1) | exact HB.out))) : w.heap.size ≤ gb128)); clear HO_7; clear HB; have HO_7 := n0_; have HB := n1_; have BK128 := n2_; have GW128 := n3_; have GE128 := n4_; clear n0_ n1_ n2_ n3_ n4_; clear hb hbox hg; have hcz25_0 : w24.cell? ⟨gb128, 0, none⟩ = some (.int .i64 0) := (blk_cell BK128.out 0).trans rfl; have hcz25_1 : w24.cell? ⟨gb128, 1, none⟩ = some (.string (⟨#[]⟩ : ByteArray)) := (blk_cell BK128.out 1).trans rfl; have hfz25_0 := blk_frozen BK128.out 0; have hfz25_1 := blk_frozen BK128.out 1; obtain ⟨Ao26, co26, eo26⟩ := Kd.R_slice HO_7.out; subst eo26; have p129 : 0 ≤ ((ji11) : Int) := of_decide_eq_true (by first | (with_reducible assumption) | assumption); have q129 : (ji11) < (x7_1.length : Int) := of_decide_eq_true (by first | (with_reducible assumption) | assumption); obtain ⟨ad129, e129, hx129_0, hx129_1⟩ := at_T37 (Kd.R_reads' HO_7.out).2.2 (ji11) p129 q129; cases e129; have hn129_0 : ad129.block ≠ gb128 := Kd.own_blk (Kd.R_ne HO_7.out BK128.out (by decide)); have hn129_1 : ad129.block ≠ gb128 := Kd.own_blk (Kd.R_ne HO_7.out BK128.out (by decide)); replace hx129_0 := (cell_far (p := ⟨gb128, 0, none⟩) (by first | (rw [add_block]; exact hn129_0) | (show (Addr.add _ _).block ≠ _; rw [add_block]; exact hn129_0) | exact hn129_0) (.int .i64 ((rd_T39 l0 x21_1).f0))).trans hx129_0; replace hx129_1 := (cell_far (p := ⟨gb128, 0, none⟩) (by first | (rw [add_block]; exact hn129_0) | (show (Addr.add _ _).block ≠ _; rw [add_block]; exact hn129_0) | exact hn129_0) (.int .i64 ((rd_T39 l0 x21_1).f0))).trans hx129_1; replace hx129_0 := (cell_far (p := ⟨gb128, 1, none⟩) (by first | (rw [add_block]; exact hn129_1) | (show (Addr.add _ _).block ≠ _; rw [add_block]; exact hn129_1) | exact hn129_1) (.string ((rd_T39 l0 x21_1).f1))).trans hx129_0; replace hx129_1 := (cell_far (p := ⟨gb128, 1, none⟩) (by first | (rw [add_block]; exact hn129_1) | (show (Addr.add _ _).block ≠ _; rw [add_block]; exact hn129_1) | exact hn129_1) (.string ((rd_T39 l0 x21_1).f1))).trans hx129_1; clear hn129_0; clear hn129_1; replace p129 := eq_true p129; replace q129 := eq_true q129) | ((with_reducible refine gate_builtin (b := .append) (xs := #[.tmp 54, .tmp 58]) rfl ?_); at_builtin; refine Kd.R_append k37 (w0 := w) w.heap.size rfl (.tmp 54) (.tmp 58) 32 37 (.agg #[(.int .i64 0), (.int .i64 0)]) 16 rfl Tryd.underlying32 info37 rfl (by decide) (by omega) (.slice (some ad129) x7_1.length co26) x7_1 (⟨wrap64 (((rd_T39 l0 x21_1).f0) * 64), wrap64 ((wrap64 (((rd_T39 l0 x21_1).f0) * 64)) + (ji9))⟩ : S37) [.int .i64 (wrap64 (((rd_T39 l0 x21_1).f0) * 64)), .int .i64 (wrap64 ((wrap64 (((rd_T39 l0 x21_1).f0) * 64)) + (ji9)))] (fun _ => True) (fun _ => False) rfl (by first | (go_simp; done) | (go_simp; rfl)) ?aP (fun _ hk => hk.elim) ?aF ?aO ?aB ?aS ?aL ?_; (case aP => exact k37_mkM _ _ _ (⟨wrap64 (((rd_T39 l0 x21_1).f0) * 64), wrap64 ((wrap64 (((rd_T39 l0 x21_1).f0) * 64)) + (ji9))⟩ : S37)); (case aB => exact (by repeat (first | (with_reducible first | exact HB.out | apply below_alloc | apply pw_below_drewN | apply below_drew1 | refine below_set ?_ GE128.out) | exact HB.out))); (case aF => exact (fun _ _ => trivial)); (case aO => exact (by (with_reducible repeat (first | apply Kd.R_alloc | apply Kd.R_drewN | apply Kd.R_drew)); exact Kd.R_mono (Kd.R_far (p := ⟨gb128, 1, none⟩) (Kd.R_far (p := ⟨gb128, 0, none⟩) (Kd.R_types HO_7.out BK128.out (by decide)) (fun _ hk => hk.2) (.int .i64 ((rd_T39 l0 x21_1).f0))) (fun _ hk => hk.2) (.string ((rd_T39 l0 x21_1).f1))) (fun _ hk => trivial))); (case aS => exact (below_size (by repeat (first | (with_reducible first | exact HB.out | apply below_alloc | apply pw_below_drewN | apply below_drew1 | refine below_set ?_ GE128.out) | exact HB.out)))); (case aL => have := LMc23.out; omega); intro v132 w27 ho hb hg hat; rw [← Ny131.out] at ho; have n0_ := Aside0.mk (blk_grown (g := gb128) (o := .cells #[.int .i64 ((rd_T39 l0 x21_1).f0), .string ((rd_T39 l0 x21_1).f1)] 39 (0, 0)) (by (with_reducible repeat (first | refine blk_drewN ?_ _ | refine blk_drew ?_ | refine blk_alloc ?_ _)); refine blk_put (cs := #[.int .i64 ((rd_T39 l0 x21_1).f0), .string (⟨#[]⟩ : ByteArray)]) ?_ 1 _ rfl; (with_reducible repeat (first | refine blk_drewN ?_ _ | refine blk_drew ?_ | refine blk_alloc ?_ _)); refine blk_put (cs := #[.int .i64 0, .string (⟨#[]⟩ : ByteArray)]) ?_ 0 _ rfl; (with_reducible repeat (first | refine blk_drewN ?_ _ | refine blk_drew ?_ | refine blk_alloc ?_ _)); exact BK128.out) hg (Kd.R_ne HO_7.out BK128.out (by decide))); have n1_ := Aside0.mk (hb); have n2_ := Aside0.mk (ho); clear BK128; clear HB; clear HO_7; have BK128 := n0_; have HB := n1_; have HO133 := n2_; clear n0_ n1_ n2_; clear ho hb hg hat))
            go_roundg k1
            case measure => have := HK1.out; omega
            case rel => exact ⟨(y131), (wrap64 (x21_1 + 1)), (by first | rfl | (simp; done) | (simp [*]; done)), H', ⟨by have := HK1.out; omega⟩, ⟨by (with_reducible repeat (first | apply Kd.R_alloc | apply Kd.R_drewN | apply Kd.R_drew)); exact HO133.out⟩, ⟨by repeat (first | (with_reducible first | exact HB.out | apply below_alloc | apply pw_below_drewN | apply below_drew1 | refine below_set ?_ GE128.out) | exact HB.out)⟩⟩
           ·rw [if_neg c23] at H
            exact absurd H (by simp)
         ·rw [if_neg c13] at H
          exact absurd H (by simp)
        ·rw [if_neg c12] at H
         exact absurd H (by simp)
       ·rw [if_neg c10] at H
        have c10b0 : decide (0 < (x7_1.length : Int)) = false := decide_eq_false c10
        have c10b1 : decide (0 < x7_1.length) = false := decide_eq_false (by omega)
        clear c10
        by_cases c28 : x7_1.length < 8796093022208
        ·rw [if_pos c28] at H
         have LMc28 := Aside0.mk c28
         clear c28
         obtain ⟨y134, hy134⟩ : ∃ y_ : List (S37), y_ = (x7_1 ++ [(⟨wrap64 (((rd_T39 l0 x21_1).f0) * 64), wrap64 ((wrap64 (((rd_T39 l0 x21_1).f0) * 64)) + (ji9))⟩ : S37)]) := ⟨_, rfl⟩
         replace H : (sparse_Ranges.l0 k1 a1 y134 l0 (l0.length : Int) (wrap64 (x21_1 + 1))) = some (r1, r2) := by first | (rw [hy134]; with_reducible exact H) | (have H2_ := (Option.bind_some _ _).symm.trans H; rw [hy134]; with_reducible exact H2_) | (have H2_ := (Option.bind_some _ _).symm.trans H; with_reducible exact H2_) | with_reducible exact H | (rw [hy134]; exact H) | exact H
         have Ny134 := Aside0.mk hy134
         clear hy134
         have H' := Aside0.mk H
         clear H
         have p127 : 0 ≤ (x21_1 : Int) := of_decide_eq_true (by first | (with_reducible assumption) | assumption)
         have q127 : x21_1 < (l0.length : Int) := of_decide_eq_true (by first | (with_reducible assumption) | assumption)
         obtain ⟨ad127, e127, hx127_0, hx127_1⟩ := at_T39 HR0.out x21_1 p127 q127
         cases e127
         replace hx127_0 := (HB.out.cell (World.block_lt_of_cell? w _ hx127_0)).trans hx127_0
         replace hx127_1 := (HB.out.cell (World.block_lt_of_cell? w _ hx127_1)).trans hx127_1
         replace p127 := eq_true p127
         replace q127 := eq_true q127
         go_wp2_with (first | ((with_reducible refine gate_dst (N := 9) rfl ?_); refine box_event ?hg (N := 9) ?hd (cs := #[.int .i64 0, .string (⟨#[]⟩ : ByteArray)]) (t := 39) ?hr ?_; (case hd => rfl); (case hg => rfl); (case hr => first | (go_simp; done) | (go_simp; rfl)); intro gb128 hg w29 hbox hb; have n0_ := Aside0.mk (Kd.R_below (by (with_reducible repeat (first | apply Kd.R_alloc | apply Kd.R_drewN | apply Kd.R_drew)); exact HO_7.out) hb); have n1_ := Aside0.mk (below_step (by repeat (first | (with_reducible first | exact HB.out | apply below_alloc | apply pw_below_drewN | apply below_drew1) | exact HB.out)) hb); have n2_ := Aside0.mk (hbox); have n3_ := Aside0.mk ((by rw [hg]; exact (below_size (by repeat (first | (with_reducible first | exact HB.out | apply below_alloc | apply pw_below_drewN | apply below_drew1) | exact HB.out))) : w.heap.size ≤ gb128)); have n4_ := Aside0.mk ((by rw [hg]; exact (below_size (by repeat (first | (with_reducible first | exact HB.out | apply below_alloc | apply pw_below_drewN | apply below_drew1) | exact HB.out))) : w.heap.size ≤ gb128)); clear HO_7; clear HB; have HO_7 := n0_; have HB := n1_; have BK128 := n2_; have GW128 := n3_; have GE128 := n4_; clear n0_ n1_ n2_ n3_ n4_; clear hb hbox hg; have hcz30_0 : w29.cell? ⟨gb128, 0, none⟩ = some (.int .i64 0) := (blk_cell BK128.out 0).trans rfl; have hcz30_1 : w29.cell? ⟨gb128, 1, none⟩ = some (.string (⟨#[]⟩ : ByteArray)) := (blk_cell BK128.out 1).trans rfl; have hfz30_0 := blk_frozen BK128.out 0; have hfz30_1 := blk_frozen BK128.out 1; obtain ⟨Ao31, co31, eo31⟩ := Kd.R_slice HO_7.out; subst eo31) | ((with_reducible refine gate_builtin (b := .append) (xs := #[.tmp 54, .tmp 58]) rfl ?_); at_builtin; refine Kd.R_append k37 (w0 := w) w.heap.size rfl (.tmp 54) (.tmp 58) 32 37 (.agg #[(.int .i64 0), (.int .i64 0)]) 16 rfl Tryd.underlying32 info37 rfl (by decide) (by omega) (.slice Ao31 x7_1.length co31) x7_1 (⟨wrap64 (((rd_T39 l0 x21_1).f0) * 64), wrap64 ((wrap64 (((rd_T39 l0 x21_1).f0) * 64)) + (ji9))⟩ : S37) [.int .i64 (wrap64 (((rd_T39 l0 x21_1).f0) * 64)), .int .i64 (wrap64 ((wrap64 (((rd_T39 l0 x21_1).f0) * 64)) + (ji9)))] (fun _ => True) (fun _ => False) rfl (by first | (go_simp; done) | (go_simp; rfl)) ?aP (fun _ hk => hk.elim) ?aF ?aO ?aB ?aS ?aL ?_; (case aP => exact k37_mkM _ _ _ (⟨wrap64 (((rd_T39 l0 x21_1).f0) * 64), wrap64 ((wrap64 (((rd_T39 l0 x21_1).f0) * 64)) + (ji9))⟩ : S37)); (case aB => exact (by repeat (first | (with_reducible first | exact HB.out | apply below_alloc | apply pw_below_drewN | apply below_drew1 | refine below_set ?_ GE128.out) | exact HB.out))); (case aF => exact (fun _ _ => trivial)); (case aO => exact (by (with_reducible repeat (first | apply Kd.R_alloc | apply Kd.R_drewN | apply Kd.R_drew)); exact Kd.R_mono (Kd.R_far (p := ⟨gb128, 1, none⟩) (Kd.R_far (p := ⟨gb128, 0, none⟩) (Kd.R_types HO_7.out BK128.out (by decide)) (fun _ hk => hk.2) (.int .i64 ((rd_T39 l0 x21_1).f0))) (fun _ hk => hk.2) (.string ((rd_T39 l0 x21_1).f1))) (fun _ hk => trivial))); (case aS => exact (below_size (by repeat (first | (with_reducible first | exact HB.out | apply below_alloc | apply pw_below_drewN | apply below_drew1 | refine below_set ?_ GE128.out) | exact HB.out)))); (case aL => have := LMc28.out; omega); intro v135 w32 ho hb hg hat; rw [← Ny134.out] at ho; have n0_ := Aside0.mk (blk_grown (g := gb128) (o := .cells #[.int .i64 ((rd_T39 l0 x21_1).f0), .string ((rd_T39 l0 x21_1).f1)] 39 (0, 0)) (by (with_reducible repeat (first | refine blk_drewN ?_ _ | refine blk_drew ?_ | refine blk_alloc ?_ _)); refine blk_put (cs := #[.int .i64 ((rd_T39 l0 x21_1).f0), .string (⟨#[]⟩ : ByteArray)]) ?_ 1 _ rfl; (with_reducible repeat (first | refine blk_drewN ?_ _ | refine blk_drew ?_ | refine blk_alloc ?_ _)); refine blk_put (cs := #[.int .i64 0, .string (⟨#[]⟩ : ByteArray)]) ?_ 0 _ rfl; (with_reducible repeat (first | refine blk_drewN ?_ _ | refine blk_drew ?_ | refine blk_alloc ?_ _)); exact BK128.out) hg (Kd.R_ne HO_7.out BK128.out (by decide))); have n1_ := Aside0.mk (hb); have n2_ := Aside0.mk (ho); clear BK128; clear HB; clear HO_7; have BK128 := n0_; have HB := n1_; have HO136 := n2_; clear n0_ n1_ n2_; clear ho hb hg hat))
         go_roundg k1
         case measure => have := HK1.out; omega
         case rel => exact ⟨(y134), (wrap64 (x21_1 + 1)), (by first | rfl | (simp; done) | (simp [*]; done)), H', ⟨by have := HK1.out; omega⟩, ⟨by (with_reducible repeat (first | apply Kd.R_alloc | apply Kd.R_drewN | apply Kd.R_drew)); exact HO136.out⟩, ⟨by repeat (first | (with_reducible first | exact HB.out | apply below_alloc | apply pw_below_drewN | apply below_drew1 | refine below_set ?_ GE128.out) | exact HB.out)⟩⟩
        ·rw [if_neg c28] at H
         exact absurd H (by simp)
      ·rw [if_neg c8] at H
       exact absurd H (by simp)
     ·rw [if_neg c7] at H
      exact absurd H (by simp)
    ·rw [if_neg c6] at H
     have c6b0 : decide (x21_1 < (l0.length : Int)) = false := decide_eq_false c6
     clear c6
     simp only [Option.some.injEq, Prod.mk.injEq] at H
     obtain ⟨rfl, rfl⟩ := H
     go_wp2
     go_ret2
     exact ⟨_, by first | rfl | (simp [errW_none, errW_some] <;> rfl) | (simp [*, errW_none, errW_some] <;> rfl), by (with_reducible repeat (first | apply Kd.R_alloc | apply Kd.R_drewN | apply Kd.R_drew)); exact HO_7.out, by repeat (first | (with_reducible first | exact HB.out | apply below_alloc | apply pw_below_drewN | apply below_drew1) | exact HB.out)⟩
 ·rw [if_neg c4] at H
  have c4b0 : (t126 == 0) = false := beq_eq_false_iff_ne.mpr c4
  have c4b1 : (t126 != 0) = true := bne_iff_ne.mpr c4
  simp only [Option.some.injEq, Prod.mk.injEq] at H
  obtain ⟨rfl, rfl⟩ := H
  go_enter Tryd.func14, Tryd.ntmps14
  go_wp2_with (first | ((with_reducible refine gate_callee (f := 15) rfl ?_); refine goesL_ (some 15) rfl rfl Tryd.func15 (by kernel_rfl) rfl #[.slice A0 l0.length c0, .int .i64 a1] rfl (by (try simp only [List.map_toArray, List.map_cons, List.map_nil]); first | done | rfl | (simp only [List.length_drop, List.length_take]; rfl)) ?_; (with_reducible refine (sparse_Check.calls k _ _ l0 a1 t126 _ ?side1 ?side2 A3.out).mono ?_); (case side1 => repeat (first | exact HR0.out | (with_reducible refine Kd.C_alloc ?_ _) | (with_reducible refine Kd.C_drewN ?_ _) | (with_reducible refine Kd.C_drew ?_))); (case side2 => exact HC0.out); rintro e w33 ⟨rfl, hb⟩; refine ⟨_, rfl, ?_⟩; have n0_ := Aside0.mk (below_step (by repeat (first | (with_reducible first | exact HB.out | apply below_alloc | apply pw_below_drewN | apply below_drew1) | exact HB.out)) hb); clear HB; have HB := n0_; clear n0_; (try clear hb); (try clear hb2); (try clear hk); (try clear hi)))
  go_ret2
  exact ⟨_, by first | rfl | (simp [errW_none, errW_some] <;> rfl) | (simp [*, errW_none, errW_some] <;> rfl), by first | exact Kd.R_nil _ _ _ _ _ | exact Kd.N_nil _ _ _ _ _ | exact Kd.V_nil _ _ _ _ _ | exact Kd.Q_nil _ _ _ _ _ | exact Kd.S_nil _ _ _ _ _, by repeat (first | (with_reducible first | exact HB.out | apply below_alloc | apply pw_below_drewN | apply below_drew1) | exact HB.out)⟩

end Go.Proofs.YtgnffienfjigiaaDoor.PA
