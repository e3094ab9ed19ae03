-- WRITTEN BY a program of this session (pp.sh)
import Derived.Test.YtgnffienfjigiaaDoorPAx0
import Derived.Test.YtgnffienfjigiaaDoorPAx2
namespace Go.Proofs.YtgnffienfjigiaaDoor.PA
open Go.RowKit Go.Proofs.YtgnffienfjigiaaDoorW.PrintWords Go.Proofs.YtgnffienfjigiaaDoorW.PrintLast Go.Proofs.YtgnffienfjigiaaDoorW.PrintMore Go.Proofs.YtgnffienfjigiaaDoor.Plain
attribute [local go_sem] max2_int min2_int max_two min_two max_three min_three max_four min_four binOp_leq_s binOp_gtr_s binOp_geq_s lit_byte   -- for this text's walks alone
set_option linter.unusedVariables false
set_option linter.unusedSimpArgs false

/-! ### sparse_Check: function 15 -/
mutual
def sparse_Check.j0 : Nat → List (S39) → Int → Bool → Option (Int)
 | 0, _, _, _ => none
 | k + 1, x0, x1, x14 => if x14 = true then (some 21) else (sparse_Check.l0 k x1 (-1) x0 (x0.length : Int) 0)
def sparse_Check.l0 : Nat → Int → Int → List (S39) → Int → Int → Option (Int)
 | 0, _, _, _, _, _ => none
 | k + 1, x1, x5, x15, x16, x17 => if x17 < x16 then (if 0 ≤ x17 then (if x17 < (x15.length : Int) then (if ((rd_T39 x15 x17).f0) ≤ x5 then (sparse_Check.j2 k x1 x15 x16 x17 true ((rd_T39 x15 x17).f0) ((rd_T39 x15 x17).f1)) else (if ((rd_T39 x15 x17).f0) > (wrap64 (Int.tdiv (wrap64 (x1 - 1)) 64)) then (sparse_Check.j2 k x1 x15 x16 x17 true ((rd_T39 x15 x17).f0) ((rd_T39 x15 x17).f1)) else (if x1 = 0 then (sparse_Check.j2 k x1 x15 x16 x17 true ((rd_T39 x15 x17).f0) ((rd_T39 x15 x17).f1)) else (sparse_Check.j2 k x1 x15 x16 x17 ((((rd_T39 x15 x17).f1).size : Int) != 64) ((rd_T39 x15 x17).f0) ((rd_T39 x15 x17).f1))))) else (none)) else (none)) else (some 0)
def sparse_Check.j2 : Nat → Int → List (S39) → Int → Int → Bool → Int → ByteArray → Option (Int)
 | 0, _, _, _, _, _, _, _ => none
 | k + 1, x1, x15, x16, x17, x42, x103000, x103001 => if x42 = true then (some 21) else (if (wrap64 (x1 - (wrap64 (x103000 * 64)))) < 64 then (if 0 ≤ (wrap64 (x1 - (wrap64 (x103000 * 64)))) then (if (wrap64 (x1 - (wrap64 (x103000 * 64)))) ≤ (x103001.size : Int) then ((strings_Trim.f (x103001.extract ((wrap64 (x1 - (wrap64 (x103000 * 64)))) : Int).toNat x103001.size) (⟨#[0]⟩ : ByteArray)).bind fun t103 => (if t103.toList = ([] : List UInt8) then (sparse_Check.l0 k x1 x103000 x15 x16 (wrap64 (x17 + 1))) else (some 21))) else (none)) else (none)) else (sparse_Check.l0 k x1 x103000 x15 x16 (wrap64 (x17 + 1))))
end
def sparse_Check.f (k : Nat) (l0 : List (S39)) (a1 : Int) : Option (Int) := if a1 < 0 then (sparse_Check.j0 k l0 a1 true) else (sparse_Check.j0 k l0 a1 (decide (a1 > 4611686018427387904)))
theorem sparse_Check.mono_l : ∀ k, (∀ y0 y1 y2, LeO (sparse_Check.j0 k y0 y1 y2) (sparse_Check.j0 (k + 1) y0 y1 y2)) ∧ (∀ y0 y1 y2 y3 y4, LeO (sparse_Check.l0 k y0 y1 y2 y3 y4) (sparse_Check.l0 (k + 1) y0 y1 y2 y3 y4)) ∧ (∀ y0 y1 y2 y3 y4 y5 y6, LeO (sparse_Check.j2 k y0 y1 y2 y3 y4 y5 y6) (sparse_Check.j2 (k + 1) y0 y1 y2 y3 y4 y5 y6))
 | 0 => ⟨fun _ _ _ r h => by simp [sparse_Check.j0] at h, fun _ _ _ _ _ r h => by simp [sparse_Check.l0] at h, fun _ _ _ _ _ _ _ r h => by simp [sparse_Check.j2] at h⟩
 | k + 1 => by
  obtain ⟨ih0, ih1, ih2⟩ := sparse_Check.mono_l k
  refine ⟨?_, ?_, ?_⟩
  ·intro y0 y1 y2
   unfold sparse_Check.j0
   repeat' first
   | (with_reducible exact ih0 _ _ _)
   | (with_reducible exact ih1 _ _ _ _ _)
   | (with_reducible exact ih2 _ _ _ _ _ _ _)
   | (with_reducible exact LeO.refl _)
   | (with_reducible exact LeO.none _)
   | (with_reducible refine LeO.ite ?_ ?_)
   | (with_reducible refine LeO.bind ?_ (fun _ => ?_))
   | exact ih0 _ _ _
   | exact ih1 _ _ _ _ _
   | exact ih2 _ _ _ _ _ _ _
   | exact LeO.none _
   | refine LeO.ite ?_ ?_
   | refine LeO.bind ?_ (fun _ => ?_)
  ·intro y0 y1 y2 y3 y4
   unfold sparse_Check.l0
   repeat' first
   | (with_reducible exact ih0 _ _ _)
   | (with_reducible exact ih1 _ _ _ _ _)
   | (with_reducible exact ih2 _ _ _ _ _ _ _)
   | (with_reducible exact LeO.refl _)
   | (with_reducible exact LeO.none _)
   | (with_reducible refine LeO.ite ?_ ?_)
   | (with_reducible refine LeO.bind ?_ (fun _ => ?_))
   | exact ih0 _ _ _
   | exact ih1 _ _ _ _ _
   | exact ih2 _ _ _ _ _ _ _
   | exact LeO.none _
   | refine LeO.ite ?_ ?_
   | refine LeO.bind ?_ (fun _ => ?_)
  ·intro y0 y1 y2 y3 y4 y5 y6
   unfold sparse_Check.j2
   repeat' first
   | (with_reducible exact ih0 _ _ _)
   | (with_reducible exact ih1 _ _ _ _ _)
   | (with_reducible exact ih2 _ _ _ _ _ _ _)
   | (with_reducible exact LeO.refl _)
   | (with_reducible exact LeO.none _)
   | (with_reducible refine LeO.ite ?_ ?_)
   | (with_reducible refine LeO.bind ?_ (fun _ => ?_))
   | exact ih0 _ _ _
   | exact ih1 _ _ _ _ _
   | exact ih2 _ _ _ _ _ _ _
   | exact LeO.none _
   | refine LeO.ite ?_ ?_
   | refine LeO.bind ?_ (fun _ => ?_)
theorem sparse_Check.mono : ∀ a0 a1 k, LeO (sparse_Check.f k a0 a1) (sparse_Check.f (k + 1) a0 a1) := by
 intro a0 a1 k
 obtain ⟨ih0, ih1, ih2⟩ := sparse_Check.mono_l k
 unfold sparse_Check.f
 repeat' first
   | (with_reducible exact ih0 _ _ _)
   | (with_reducible exact ih1 _ _ _ _ _)
   | (with_reducible exact ih2 _ _ _ _ _ _ _)
   | (with_reducible exact LeO.refl _)
   | (with_reducible exact LeO.none _)
   | (with_reducible refine LeO.ite ?_ ?_)
   | (with_reducible refine LeO.bind ?_ (fun _ => ?_))
   | exact ih0 _ _ _
   | exact ih1 _ _ _ _ _
   | exact ih2 _ _ _ _ _ _ _
   | exact LeO.none _
   | refine LeO.ite ?_ ?_
   | refine LeO.bind ?_ (fun _ => ?_)
set_option maxHeartbeats 8000000 in
set_option maxRecDepth 100000 in
theorem sparse_Check.calls (k : Nat) (A0 : Option Addr) (c0 : Nat) (l0 : List (S39)) (a1 : Int) (r : Int) (w : World) (hr0 : Kd.C k39 w A0 l0.length l0) (hc0 : l0.length ≤ c0) (h : sparse_Check.f k l0 a1 = some r) :
  Calls Tryd.prog 15 #[.slice A0 l0.length c0, .int .i64 a1] w fun e w' => e = .returned (.int .i64 r) ∧ Below w.heap.size w w' := by
 have hu39 := Tryd.underlying39
 have HR0 := Aside0.mk hr0
 have HC0 := Aside0.mk hc0
 clear hr0 hc0
 have HB := Aside0.mk (Below.refl w.heap.size w)
 have H : (if a1 < 0 then (sparse_Check.j0 k l0 a1 true) else (sparse_Check.j0 k l0 a1 (decide (a1 > 4611686018427387904)))) = some r := h
 clear h
 have HC3 := Aside0.mk H
 clear H
 go_enter Tryd.func15, Tryd.ntmps15
 go_upto_region 1 with (fail)
 go_cut [14] (fun v14 wc => ∃ (kq : Nat) (x14_2 : Bool), v14 = .bool x14_2 ∧ Aside0 (sparse_Check.j0 kq l0 a1 x14_2 = some r) ∧ Aside0 (kq ≤ k) ∧ Aside0 (Below w.heap.size w wc))
 case first =>
  have H := HC3.out
  clear HC3
  by_cases c4 : a1 < 0
  ·rw [if_pos c4] at H
   have c4b0 : decide (a1 < 0) = true := decide_eq_true c4
   clear c4
   (first | rw [c4b0] | (simp only [i64_w, i32_w]; rw [c4b0]) | skip)
   have H' := Aside0.mk H
   clear H
   go_wp2
   go_meet
   case rel => exact ⟨_, (true), (by first | rfl | (simp; done) | (simp [*]; done)), H', ⟨by first | omega | exact Nat.le_refl _⟩, ⟨by repeat (first | (with_reducible first | exact HB.out | apply below_alloc | apply pw_below_drewN | apply below_drew1) | exact HB.out)⟩⟩
  ·rw [if_neg c4] at H
   have c4b0 : decide (a1 < 0) = false := decide_eq_false c4
   clear c4
   (first | rw [c4b0] | (simp only [i64_w, i32_w]; rw [c4b0]) | skip)
   have H' := Aside0.mk H
   clear H
   go_wp2
   go_meet
   case rel => exact ⟨_, (decide (a1 > 4611686018427387904)), (by first | rfl | (simp; done) | (simp [*]; done)), H', ⟨by first | omega | exact Nat.le_refl _⟩, ⟨by repeat (first | (with_reducible first | exact HB.out | apply below_alloc | apply pw_below_drewN | apply below_drew1) | exact HB.out)⟩⟩
 case rest =>
  clear HC3
  try clear c1
  try clear p2
  try clear c4
  try clear c4b0
  obtain ⟨kq, x14_2, rfl, HA, HJ2, HB⟩ := hcut
  cases kq with
  | zero => exact absurd HA.out (by simp [sparse_Check.j0])
  | succ kj2 =>
   have H := HA.out
   clear HA
   simp only [sparse_Check.j0] at H
   by_cases c5 : x14_2 = true
   ·subst c5
    have H1 : (some 21) = some r := by rw [if_pos rfl] at H; exact H
    clear H
    have H := H1
    clear H1
    obtain rfl := Option.some.inj H
    go_wp2
    go_ret
    exact ⟨by first | rfl | (simp [errW_none, errW_some] <;> rfl) | (simp [*, errW_none, errW_some] <;> rfl), by repeat (first | (with_reducible first | exact HB.out | apply below_alloc | apply pw_below_drewN | apply below_drew1) | exact HB.out)⟩
   ·replace c5 := Bool.eq_false_iff.mpr c5
    subst c5
    have H1 : (sparse_Check.l0 kj2 a1 (-1) l0 (l0.length : Int) 0) = some r := by rw [if_neg (show ¬ (false = true) by decide)] at H; exact H
    clear H
    have H := H1
    clear H1
    have H' := Aside0.mk H
    clear H
    go_wp2
    go_loopg [5, 17] kj2 (fun kq v5 v17 w' => ∃ (x5_2 : Int) (x17_2 : Int), v5 = .int .i64 x5_2 ∧ v17 = .int .i64 x17_2 ∧ Aside0 (sparse_Check.l0 kq a1 x5_2 l0 (l0.length : Int) x17_2 = some r) ∧ Aside0 (kq ≤ kj2) ∧ Aside0 (Below w.heap.size w w'))
    case atStart => exact ⟨((-1)), (0), (by first | rfl | (simp; done) | (simp [*]; done)), (by first | rfl | (simp; done) | (simp [*]; done)), H', ⟨Nat.le_refl _⟩, ⟨by repeat (first | (with_reducible first | exact HB.out | apply below_alloc | apply pw_below_drewN | apply below_drew1) | exact HB.out)⟩⟩
    case round =>
     clear H'
     try clear c1
     try clear p2
     try clear c4
     try clear c4b0
     try clear c5
     try clear p2
     obtain ⟨x5_2, x17_2, rfl, rfl, HA, HK2, HB⟩ := hrel
     cases gk with
     | zero => exact absurd HA.out (by simp [sparse_Check.l0])
     | succ k2 =>
      have H := HA.out
      clear HA
      simp only [sparse_Check.l0] at H
      by_cases c6 : x17_2 < (l0.length : Int)
      ·rw [if_pos c6] at H
       have c6b0 : decide (x17_2 < (l0.length : Int)) = true := decide_eq_true c6
       clear c6
       by_cases c7 : 0 ≤ x17_2
       ·rw [if_pos c7] at H
        have c7b0 : decide (0 ≤ x17_2) = true := decide_eq_true c7
        clear c7
        by_cases c8 : x17_2 < (l0.length : Int)
        ·rw [if_pos c8] at H
         have c8b0 : decide (x17_2 < (l0.length : Int)) = true := decide_eq_true c8
         clear c8
         have HC9 := Aside0.mk H
         clear H
         have p101 : 0 ≤ (x17_2 : Int) := of_decide_eq_true (by first | (with_reducible assumption) | assumption)
         have q101 : x17_2 < (l0.length : Int) := of_decide_eq_true (by first | (with_reducible assumption) | assumption)
         obtain ⟨ad101, e101, hx101_0, hx101_1⟩ := at_T39 HR0.out x17_2 p101 q101
         cases e101
         replace hx101_0 := (HB.out.cell (World.block_lt_of_cell? w _ hx101_0)).trans hx101_0
         replace hx101_1 := (HB.out.cell (World.block_lt_of_cell? w _ hx101_1)).trans hx101_1
         replace p101 := eq_true p101
         replace q101 := eq_true q101
         go_upto_region 7 with (first | ((with_reducible refine gate_dst (N := 7) rfl ?_); (try (refine gate_guard (by rfl) ?_; dsimp only)); refine box_event ?hg (N := 7) ?hd (cs := #[.int .i64 0, .string (⟨#[]⟩ : ByteArray)]) (t := 39) ?hr ?_; (case hd => rfl); (case hg => rfl); (case hr => first | (go_simp; done) | (go_simp; rfl)); intro gb102 hg w10 hbox hb; have n0_ := Aside0.mk (below_step (by repeat (first | (with_reducible first | exact HB.out | apply below_alloc | apply pw_below_drewN | apply below_drew1) | exact HB.out)) hb); have n1_ := Aside0.mk (hbox); have n2_ := Aside0.mk ((by rw [hg]; exact (below_size (by repeat (first | (with_reducible first | exact HB.out | apply below_alloc | apply pw_below_drewN | apply below_drew1) | exact HB.out))) : w.heap.size ≤ gb102)); have n3_ := Aside0.mk ((by rw [hg]; exact (below_size (by repeat (first | (with_reducible first | exact HB.out | apply below_alloc | apply pw_below_drewN | apply below_drew1) | exact HB.out))) : w.heap.size ≤ gb102)); clear HB; have HB := n0_; have BK102 := n1_; have GW102 := n2_; have GE102 := n3_; clear n0_ n1_ n2_ n3_; clear hb hbox hg; have hcz11_0 : w10.cell? ⟨gb102, 0, none⟩ = some (.int .i64 0) := (blk_cell BK102.out 0).trans rfl; have hcz11_1 : w10.cell? ⟨gb102, 1, none⟩ = some (.string (⟨#[]⟩ : ByteArray)) := (blk_cell BK102.out 1).trans rfl; have hfz11_0 := blk_frozen BK102.out 0; have hfz11_1 := blk_frozen BK102.out 1))
         (try simp only [Act.put, List.setIfInBounds_toArray, List.set_cons_zero, List.set_cons_succ])
         go_cut [42] (fun v42 wc => ∃ (kq : Nat) (x42_8 : Bool), v42 = .bool x42_8 ∧ Aside0 (sparse_Check.j2 kq a1 l0 (l0.length : Int) x17_2 x42_8 ((rd_T39 l0 x17_2).f0) ((rd_T39 l0 x17_2).f1) = some r) ∧ Aside0 (kq ≤ k2) ∧ Aside0 (wc.heap[gb102]? = some (.cells #[.int .i64 ((rd_T39 l0 x17_2).f0), .string ((rd_T39 l0 x17_2).f1)] 39 (0, 0))) ∧ Aside0 (Below w.heap.size w wc))
         case first =>
          have H := HC9.out
          clear HC9
          by_cases c12 : ((rd_T39 l0 x17_2).f0) ≤ x5_2
          ·rw [if_pos c12] at H
           have c12b0 : decide (((rd_T39 l0 x17_2).f0) ≤ x5_2) = true := decide_eq_true c12
           clear c12
           (first | rw [c12b0] | (simp only [i64_w, i32_w]; rw [c12b0]) | skip)
           have H' := Aside0.mk H
           clear H
           have hcz13_0 : w10.cell? ⟨gb102, 0, none⟩ = some (.int .i64 0) := (blk_cell BK102.out 0).trans rfl
           have hcz13_1 : w10.cell? ⟨gb102, 1, none⟩ = some (.string (⟨#[]⟩ : ByteArray)) := (blk_cell BK102.out 1).trans rfl
           have hfz13_0 := blk_frozen BK102.out 0
           have hfz13_1 := blk_frozen BK102.out 1
           go_wp2
           go_meet
           case rel => exact ⟨_, (true), (by first | rfl | (simp; done) | (simp [*]; done)), H', ⟨by have := HJ2.out; have := HK2.out; first | omega | exact Nat.le_refl _⟩, ⟨by (with_reducible repeat (first | refine blk_drewN ?_ _ | refine blk_drew ?_ | refine blk_alloc ?_ _)); refine blk_put (cs := #[.int .i64 ((rd_T39 l0 x17_2).f0), .string (⟨#[]⟩ : ByteArray)]) ?_ 1 _ rfl; (with_reducible repeat (first | refine blk_drewN ?_ _ | refine blk_drew ?_ | refine blk_alloc ?_ _)); refine blk_put (cs := #[.int .i64 0, .string (⟨#[]⟩ : ByteArray)]) ?_ 0 _ rfl; (with_reducible repeat (first | refine blk_drewN ?_ _ | refine blk_drew ?_ | refine blk_alloc ?_ _)); exact BK102.out⟩, ⟨by repeat (first | (with_reducible first | exact HB.out | apply below_alloc | apply pw_below_drewN | apply below_drew1 | refine below_set ?_ GE102.out) | exact HB.out)⟩⟩
          ·rw [if_neg c12] at H
           have c12b0 : decide (((rd_T39 l0 x17_2).f0) ≤ x5_2) = false := decide_eq_false c12
           clear c12
           (first | rw [c12b0] | (simp only [i64_w, i32_w]; rw [c12b0]) | skip)
           by_cases c14 : ((rd_T39 l0 x17_2).f0) > (wrap64 (Int.tdiv (wrap64 (a1 - 1)) 64))
           ·rw [if_pos c14] at H
            have c14b0 : decide ((wrap64 (Int.tdiv (wrap64 (a1 - 1)) 64)) < ((rd_T39 l0 x17_2).f0)) = true := decide_eq_true c14
            clear c14
            have H' := Aside0.mk H
            clear H
            have hcz15_0 : w10.cell? ⟨gb102, 0, none⟩ = some (.int .i64 0) := (blk_cell BK102.out 0).trans rfl
            have hcz15_1 : w10.cell? ⟨gb102, 1, none⟩ = some (.string (⟨#[]⟩ : ByteArray)) := (blk_cell BK102.out 1).trans rfl
            have hfz15_0 := blk_frozen BK102.out 0
            have hfz15_1 := blk_frozen BK102.out 1
            go_wp2
            go_meet
            case rel => exact ⟨_, (true), (by first | rfl | (simp; done) | (simp [*]; done)), H', ⟨by have := HJ2.out; have := HK2.out; first | omega | exact Nat.le_refl _⟩, ⟨by (with_reducible repeat (first | refine blk_drewN ?_ _ | refine blk_drew ?_ | refine blk_alloc ?_ _)); refine blk_put (cs := #[.int .i64 ((rd_T39 l0 x17_2).f0), .string (⟨#[]⟩ : ByteArray)]) ?_ 1 _ rfl; (with_reducible repeat (first | refine blk_drewN ?_ _ | refine blk_drew ?_ | refine blk_alloc ?_ _)); refine blk_put (cs := #[.int .i64 0, .string (⟨#[]⟩ : ByteArray)]) ?_ 0 _ rfl; (with_reducible repeat (first | refine blk_drewN ?_ _ | refine blk_drew ?_ | refine blk_alloc ?_ _)); exact BK102.out⟩, ⟨by repeat (first | (with_reducible first | exact HB.out | apply below_alloc | apply pw_below_drewN | apply below_drew1 | refine below_set ?_ GE102.out) | exact HB.out)⟩⟩
           ·rw [if_neg c14] at H
            have c14b0 : decide ((wrap64 (Int.tdiv (wrap64 (a1 - 1)) 64)) < ((rd_T39 l0 x17_2).f0)) = false := decide_eq_false c14
            clear c14
            by_cases c16 : a1 = 0
            ·rw [if_pos c16] at H
             have c16b0 : (a1 == 0) = true := beq_iff_eq.mpr c16
             have c16b1 : (a1 != 0) = false := bne_eq_false_iff_eq.mpr c16
             clear c16
             have H' := Aside0.mk H
             clear H
             have hcz17_0 : w10.cell? ⟨gb102, 0, none⟩ = some (.int .i64 0) := (blk_cell BK102.out 0).trans rfl
             have hcz17_1 : w10.cell? ⟨gb102, 1, none⟩ = some (.string (⟨#[]⟩ : ByteArray)) := (blk_cell BK102.out 1).trans rfl
             have hfz17_0 := blk_frozen BK102.out 0
             have hfz17_1 := blk_frozen BK102.out 1
             go_wp2
             go_meet
             case rel => exact ⟨_, (true), (by first | rfl | (simp; done) | (simp [*]; done)), H', ⟨by have := HJ2.out; have := HK2.out; first | omega | exact Nat.le_refl _⟩, ⟨by (with_reducible repeat (first | refine blk_drewN ?_ _ | refine blk_drew ?_ | refine blk_alloc ?_ _)); refine blk_put (cs := #[.int .i64 ((rd_T39 l0 x17_2).f0), .string (⟨#[]⟩ : ByteArray)]) ?_ 1 _ rfl; (with_reducible repeat (first | refine blk_drewN ?_ _ | refine blk_drew ?_ | refine blk_alloc ?_ _)); refine blk_put (cs := #[.int .i64 0, .string (⟨#[]⟩ : ByteArray)]) ?_ 0 _ rfl; (with_reducible repeat (first | refine blk_drewN ?_ _ | refine blk_drew ?_ | refine blk_alloc ?_ _)); exact BK102.out⟩, ⟨by repeat (first | (with_reducible first | exact HB.out | apply below_alloc | apply pw_below_drewN | apply below_drew1 | refine below_set ?_ GE102.out) | exact HB.out)⟩⟩
            ·rw [if_neg c16] at H
             have c16b0 : (a1 == 0) = false := beq_eq_false_iff_ne.mpr c16
             have c16b1 : (a1 != 0) = true := bne_iff_ne.mpr c16
             have H' := Aside0.mk H
             clear H
             have hcz18_0 : w10.cell? ⟨gb102, 0, none⟩ = some (.int .i64 0) := (blk_cell BK102.out 0).trans rfl
             have hcz18_1 : w10.cell? ⟨gb102, 1, none⟩ = some (.string (⟨#[]⟩ : ByteArray)) := (blk_cell BK102.out 1).trans rfl
             have hfz18_0 := blk_frozen BK102.out 0
             have hfz18_1 := blk_frozen BK102.out 1
             go_wp2
             go_meet
             case rel => exact ⟨_, (((((rd_T39 l0 x17_2).f1).size : Int) != 64)), (by first | rfl | (simp; done) | (simp [*]; done)), H', ⟨by have := HJ2.out; have := HK2.out; first | omega | exact Nat.le_refl _⟩, ⟨by (with_reducible repeat (first | refine blk_drewN ?_ _ | refine blk_drew ?_ | refine blk_alloc ?_ _)); refine blk_put (cs := #[.int .i64 ((rd_T39 l0 x17_2).f0), .string (⟨#[]⟩ : ByteArray)]) ?_ 1 _ rfl; (with_reducible repeat (first | refine blk_drewN ?_ _ | refine blk_drew ?_ | refine blk_alloc ?_ _)); refine blk_put (cs := #[.int .i64 0, .string (⟨#[]⟩ : ByteArray)]) ?_ 0 _ rfl; (with_reducible repeat (first | refine blk_drewN ?_ _ | refine blk_drew ?_ | refine blk_alloc ?_ _)); exact BK102.out⟩, ⟨by repeat (first | (with_reducible first | exact HB.out | apply below_alloc | apply pw_below_drewN | apply below_drew1 | refine below_set ?_ GE102.out) | exact HB.out)⟩⟩
         case rest =>
          clear HC9
          try clear c1
          try clear p1
          try clear q1
          try clear hx1
          try clear p2
          try clear c4
          try clear c4b0
          try clear c5
          try clear c6
          try clear c6b0
          try clear p6
          try clear c7
          try clear c7b0
          try clear c8
          try clear c8b0
          try clear p10
          try clear q10
          try clear hx10
          try clear c12
          try clear c12b0
          try clear c14
          try clear c14b0
          try clear c15
          try clear c16
          try clear c16b0
          try clear c16b1
          try clear hcz11_0
          try clear hcz11_1
          try clear hcz13_0
          try clear hcz13_1
          try clear hcz15_0
          try clear hcz15_1
          try clear hcz17_0
          try clear hcz17_1
          try clear hcz18_0
          try clear hcz18_1
          try clear hfz11_0
          try clear hfz11_1
          try clear hfz13_0
          try clear hfz13_1
          try clear hfz15_0
          try clear hfz15_1
          try clear hfz17_0
          try clear hfz17_1
          try clear hfz18_0
          try clear hfz18_1
          try clear hx101_0
          try clear hx101_1
          try clear p101
          try clear p2
          try clear q101
          obtain ⟨kq, x42_8, rfl, HA, HJ8, BK102, HB⟩ := hcut
          cases kq with
          | zero => exact absurd HA.out (by simp [sparse_Check.j2])
          | succ kj8 =>
           have H := HA.out
           clear HA
           simp only [sparse_Check.j2] at H
           by_cases c19 : x42_8 = true
           ·subst c19
            have H1 : (some 21) = some r := by rw [if_pos rfl] at H; exact H
            clear H
            have H := H1
            clear H1
            obtain rfl := Option.some.inj H
            go_wp2
            go_ret
            exact ⟨by first | rfl | (simp [errW_none, errW_some] <;> rfl) | (simp [*, errW_none, errW_some] <;> rfl), by repeat (first | (with_reducible first | exact HB.out | apply below_alloc | apply pw_below_drewN | apply below_drew1 | refine below_set ?_ GE102.out) | exact HB.out)⟩
           ·replace c19 := Bool.eq_false_iff.mpr c19
            subst c19
            have H1 : (if (wrap64 (a1 - (wrap64 (((rd_T39 l0 x17_2).f0) * 64)))) < 64 then (if 0 ≤ (wrap64 (a1 - (wrap64 (((rd_T39 l0 x17_2).f0) * 64)))) then (if (wrap64 (a1 - (wrap64 (((rd_T39 l0 x17_2).f0) * 64)))) ≤ (((rd_T39 l0 x17_2).f1).size : Int) then ((strings_Trim.f (((rd_T39 l0 x17_2).f1).extract ((wrap64 (a1 - (wrap64 (((rd_T39 l0 x17_2).f0) * 64)))) : Int).toNat ((rd_T39 l0 x17_2).f1).size) (⟨#[0]⟩ : ByteArray)).bind fun t103 => (if t103.toList = ([] : List UInt8) then (sparse_Check.l0 kj8 a1 ((rd_T39 l0 x17_2).f0) l0 (l0.length : Int) (wrap64 (x17_2 + 1))) else (some 21))) else (none)) else (none)) else (sparse_Check.l0 kj8 a1 ((rd_T39 l0 x17_2).f0) l0 (l0.length : Int) (wrap64 (x17_2 + 1)))) = some r := by rw [if_neg (show ¬ (false = true) by decide)] at H; exact H
            clear H
            have H := H1
            clear H1
            by_cases c20 : (wrap64 (a1 - (wrap64 (((rd_T39 l0 x17_2).f0) * 64)))) < 64
            ·rw [if_pos c20] at H
             have c20b0 : decide ((wrap64 (a1 - (wrap64 (((rd_T39 l0 x17_2).f0) * 64)))) < 64) = true := decide_eq_true c20
             clear c20
             obtain ⟨ji21, hji21⟩ : ∃ j_ : Int, (wrap64 (a1 - (wrap64 (((rd_T39 l0 x17_2).f0) * 64)))) = j_ := ⟨_, rfl⟩
             replace H : (if 0 ≤ (ji21) then (if (ji21) ≤ (((rd_T39 l0 x17_2).f1).size : Int) then ((strings_Trim.f (((rd_T39 l0 x17_2).f1).extract ((ji21) : Int).toNat ((rd_T39 l0 x17_2).f1).size) (⟨#[0]⟩ : ByteArray)).bind fun t103 => (if t103.toList = ([] : List UInt8) then (sparse_Check.l0 kj8 a1 ((rd_T39 l0 x17_2).f0) l0 (l0.length : Int) (wrap64 (x17_2 + 1))) else (some 21))) else (none)) else (none)) = some r := by first | (rw [hji21] at H; exact H) | (simp only [hji21] at H ⊢; exact H)
             (try rw [hji21] at c20b0)
             have hji21w : (IntKind.i64.wrap (a1 - (wrap64 (((rd_T39 l0 x17_2).f0) * 64)))) = ji21 := (i64_w _).trans hji21
             by_cases c22 : 0 ≤ (ji21)
             ·rw [if_pos c22] at H
              have c22b0 := eq_true c22
              have c22b1 : decide (0 ≤ (ji21)) = true := decide_eq_true c22
              clear c22
              by_cases c23 : (ji21) ≤ (((rd_T39 l0 x17_2).f1).size : Int)
              ·rw [if_pos c23] at H
               have c23b0 := eq_true c23
               have c23b1 : decide ((ji21) ≤ (((rd_T39 l0 x17_2).f1).size : Int)) = true := decide_eq_true c23
               clear c23
               replace H := Option.bind_eq_some_iff.mp H
               obtain ⟨t103, A240, H⟩ := H
               replace H : (if t103.toList = ([] : List UInt8) then (sparse_Check.l0 kj8 a1 ((rd_T39 l0 x17_2).f0) l0 (l0.length : Int) (wrap64 (x17_2 + 1))) else (some 21)) = some r := H
               have A24 := Aside0.mk A240
               clear A240
               by_cases c25 : t103.toList = ([] : List UInt8)
               ·rw [if_pos c25] at H
                have c25b0 : (t103.toList == ([] : List UInt8)) = true := beq_iff_eq.mpr c25
                have c25b1 : (t103.toList != ([] : List UInt8)) = false := bne_eq_false_iff_eq.mpr c25
                clear c25
                have H' := Aside0.mk H
                clear H
                have hcz26_0 : wc.cell? ⟨gb102, 0, none⟩ = some (.int .i64 ((rd_T39 l0 x17_2).f0)) := (blk_cell BK102.out 0).trans rfl
                have hcz26_1 : wc.cell? ⟨gb102, 1, none⟩ = some (.string ((rd_T39 l0 x17_2).f1)) := (blk_cell BK102.out 1).trans rfl
                have hfz26_0 := blk_frozen BK102.out 0
                have hfz26_1 := blk_frozen BK102.out 1
                go_wp2_with (first | (go_at_call 30; (with_reducible refine (strings_Trim.calls (((rd_T39 l0 x17_2).f1).extract ((ji21) : Int).toNat ((rd_T39 l0 x17_2).f1).size) (⟨#[0]⟩ : ByteArray) t103 _ A24.out).mono ?_); rintro e w' ⟨rfl, ⟨nd, rfl⟩⟩))
                go_roundg kj8
                case measure => have := HJ2.out; have := HK2.out; have := HJ8.out; omega
                case rel => exact ⟨(((rd_T39 l0 x17_2).f0)), (wrap64 (x17_2 + 1)), (by first | rfl | (simp; done) | (simp [*]; done)), (by first | rfl | (simp; done) | (simp [*]; done)), H', ⟨by have := HJ2.out; have := HK2.out; have := HJ8.out; omega⟩, ⟨by repeat (first | (with_reducible first | exact HB.out | apply below_alloc | apply pw_below_drewN | apply below_drew1 | refine below_set ?_ GE102.out) | exact HB.out)⟩⟩
               ·rw [if_neg c25] at H
                have c25b0 : (t103.toList == ([] : List UInt8)) = false := beq_eq_false_iff_ne.mpr c25
                have c25b1 : (t103.toList != ([] : List UInt8)) = true := bne_iff_ne.mpr c25
                obtain rfl := Option.some.inj H
                have hcz27_0 : wc.cell? ⟨gb102, 0, none⟩ = some (.int .i64 ((rd_T39 l0 x17_2).f0)) := (blk_cell BK102.out 0).trans rfl
                have hcz27_1 : wc.cell? ⟨gb102, 1, none⟩ = some (.string ((rd_T39 l0 x17_2).f1)) := (blk_cell BK102.out 1).trans rfl
                have hfz27_0 := blk_frozen BK102.out 0
                have hfz27_1 := blk_frozen BK102.out 1
                go_wp2_with (first | (go_at_call 30; (with_reducible refine (strings_Trim.calls (((rd_T39 l0 x17_2).f1).extract ((ji21) : Int).toNat ((rd_T39 l0 x17_2).f1).size) (⟨#[0]⟩ : ByteArray) t103 _ A24.out).mono ?_); rintro e w' ⟨rfl, ⟨nd, rfl⟩⟩))
                go_ret
                exact ⟨by first | rfl | (simp [errW_none, errW_some] <;> rfl) | (simp only [← hji21]; first | rfl | (simp [errW_none, errW_some] <;> rfl)) | (simp [*, errW_none, errW_some] <;> rfl), by repeat (first | (with_reducible first | exact HB.out | apply below_alloc | apply pw_below_drewN | apply below_drew1 | refine below_set ?_ GE102.out) | exact HB.out)⟩
              ·rw [if_neg c23] at H
               exact absurd H (by simp)
             ·rw [if_neg c22] at H
              exact absurd H (by simp)
            ·rw [if_neg c20] at H
             have c20b0 : decide ((wrap64 (a1 - (wrap64 (((rd_T39 l0 x17_2).f0) * 64)))) < 64) = false := decide_eq_false c20
             clear c20
             have H' := Aside0.mk H
             clear H
             have hcz28_0 : wc.cell? ⟨gb102, 0, none⟩ = some (.int .i64 ((rd_T39 l0 x17_2).f0)) := (blk_cell BK102.out 0).trans rfl
             have hcz28_1 : wc.cell? ⟨gb102, 1, none⟩ = some (.string ((rd_T39 l0 x17_2).f1)) := (blk_cell BK102.out 1).trans rfl
             have hfz28_0 := blk_frozen BK102.out 0
             have hfz28_1 := blk_frozen BK102.out 1
             go_wp2
             go_roundg kj8
             case measure => have := HJ2.out; have := HK2.out; have := HJ8.out; omega
             case rel => exact ⟨(((rd_T39 l0 x17_2).f0)), (wrap64 (x17_2 + 1)), (by first | rfl | (simp; done) | (simp [*]; done)), (by first | rfl | (simp; done) | (simp [*]; done)), H', ⟨by have := HJ2.out; have := HK2.out; have := HJ8.out; omega⟩, ⟨by repeat (first | (with_reducible first | exact HB.out | apply below_alloc | apply pw_below_drewN | apply below_drew1 | refine below_set ?_ GE102.out) | exact HB.out)⟩⟩
        ·rw [if_neg c8] at H
         exact absurd H (by simp)
       ·rw [if_neg c7] at H
        exact absurd H (by simp)
      ·rw [if_neg c6] at H
       have c6b0 : decide (x17_2 < (l0.length : Int)) = false := decide_eq_false c6
       clear c6
       obtain rfl := Option.some.inj H
       go_wp2
       go_ret
       exact ⟨by first | rfl | (simp [errW_none, errW_some] <;> rfl) | (simp [*, errW_none, errW_some] <;> rfl), by repeat (first | (with_reducible first | exact HB.out | apply below_alloc | apply pw_below_drewN | apply below_drew1) | exact HB.out)⟩

end Go.Proofs.YtgnffienfjigiaaDoor.PA
