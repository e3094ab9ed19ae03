-- WRITTEN BY a program of this session (pp.sh)
import Derived.Test.YtcocddpknkklhaaPAx0
import Derived.Test.YtcocddpknkklhaaPAx7
import Derived.Test.YtcocddpknkklhaaPAx8
namespace Go.Proofs.Ytcocddpknkklhaa.PA
open Go.RowKit Go.Proofs.YtcocddpknkklhaaW.PrintWords Go.Proofs.YtcocddpknkklhaaW.PrintLast Go.Proofs.YtcocddpknkklhaaW.PrintMore Go.Proofs.Ytcocddpknkklhaa.Plain
attribute [local go_sem] max2_int min2_int max_two min_two max_three min_three max_four min_four binOp_leq_s binOp_gtr_s binOp_geq_s lit_byte   -- for this text's walks alone
set_option linter.unusedVariables false
set_option linter.unusedSimpArgs false

/-! ### coppicelaw18_awake: function 8, by hand -/
theorem coppicelaw18_awake.eq (d : Nat) (w : World) (x0 y0 : ByteArray) (x1 y1 : Bool) (x2 y2 : Bool) (x3 y3 : ByteArray) (x4 y4 : ByteArray) :
    (Op.equalIn (d + 2) 61 (.agg #[.string x0, .bool x1, .bool x2, .string x3, .string x4]) (.agg #[.string y0, .bool y1, .bool y2, .string y3, .string y4])).run Try.prog w = .ok (x0.toList == y0.toList && (x1 == y1 && (x2 == y2 && (x3.toList == y3.toList && (x4.toList == y4.toList))))) w := by
  refine eqA_of Try.underlying61 (by kernel_rfl) ?_
  refine eqf_cons (by rfl) (by go_simp; rfl) (by go_simp; rfl) (by go_simp) ?_
  refine eqf_cons (by rfl) (by go_simp; rfl) (by go_simp; rfl) (by go_simp) ?_
  refine eqf_cons (by rfl) (by go_simp; rfl) (by go_simp; rfl) (by go_simp) ?_
  refine eqf_cons (by rfl) (by go_simp; rfl) (by go_simp; rfl) (by go_simp) ?_
  exact eqf_last (by rfl) (by go_simp; rfl) (by go_simp; rfl) (by go_simp)
attribute [local go_sem high] coppicelaw18_awake.eq
theorem coppicelaw18_awake.diff : delta_Diff.f [(⟨(⟨#[97]⟩ : ByteArray), (⟨#[49]⟩ : ByteArray)⟩ : S59), (⟨(⟨#[98]⟩ : ByteArray), (⟨#[50]⟩ : ByteArray)⟩ : S59)] [(⟨(⟨#[98]⟩ : ByteArray), (⟨#[51]⟩ : ByteArray)⟩ : S59)] = some ([(⟨(⟨#[97]⟩ : ByteArray), true, false, (⟨#[49]⟩ : ByteArray), (⟨#[]⟩ : ByteArray)⟩ : S61), (⟨(⟨#[98]⟩ : ByteArray), true, true, (⟨#[50]⟩ : ByteArray), (⟨#[51]⟩ : ByteArray)⟩ : S61)], 0) := by
  unfold delta_Diff.f
  rw [if_pos (by decide), MergeP.pairs_lt (by unfold MergeP.lt; simp only [ByteArray.toList_eq]; decide), MergeP.pairs_eq (by unfold MergeP.lt; simp only [ByteArray.toList_eq]; decide) (by unfold MergeP.lt; simp only [ByteArray.toList_eq]; decide), MergeP.pairs_nil, if_pos (by simp only [delta_rises.sortB_item, delta_rises.neB_item, ByteArray.toList_eq]; decide)]
  simp [MergeP.made, delta_Diff.diffF]
/-- The document's example: awake. -/
def coppicelaw18_awake.f : Option Bool := some true
set_option maxHeartbeats 8000000 in
set_option maxRecDepth 100000 in
theorem coppicelaw18_awake.calls (r : Bool) (w : World) (h : coppicelaw18_awake.f = some r) :
    Calls Try.prog 8 #[] w fun e w' => e = .returned (.bool r) ∧ Below w.heap.size w w' := by
  obtain rfl := Option.some.inj h
  clear h
  have hu_i := Try.underlying59
  have hu_c := Try.underlying61
  have HB := Aside0.mk (Below.refl w.heap.size w)
  have hd := coppicelaw18_awake.diff
  obtain ⟨y101, hy101⟩ : ∃ y_ : List (S59), y_ = [(⟨(⟨#[97]⟩ : ByteArray), (⟨#[49]⟩ : ByteArray)⟩ : S59), (⟨(⟨#[98]⟩ : ByteArray), (⟨#[50]⟩ : ByteArray)⟩ : S59)] := ⟨_, rfl⟩
  obtain ⟨y104, hy104⟩ : ∃ y_ : List (S59), y_ = [(⟨(⟨#[98]⟩ : ByteArray), (⟨#[51]⟩ : ByteArray)⟩ : S59)] := ⟨_, rfl⟩
  obtain ⟨t107, ht107⟩ : ∃ y_ : List (S61), y_ = [(⟨(⟨#[97]⟩ : ByteArray), true, false, (⟨#[49]⟩ : ByteArray), (⟨#[]⟩ : ByteArray)⟩ : S61), (⟨(⟨#[98]⟩ : ByteArray), true, true, (⟨#[50]⟩ : ByteArray), (⟨#[51]⟩ : ByteArray)⟩ : S61)] := ⟨_, rfl⟩
  have E0 : Aside0 (rd_T61 t107 0 = (⟨(⟨#[97]⟩ : ByteArray), true, false, (⟨#[49]⟩ : ByteArray), (⟨#[]⟩ : ByteArray)⟩ : S61)) := ⟨by rw [ht107]; rfl⟩
  have E1 : Aside0 (rd_T61 t107 1 = (⟨(⟨#[98]⟩ : ByteArray), true, true, (⟨#[50]⟩ : ByteArray), (⟨#[51]⟩ : ByteArray)⟩ : S61)) := ⟨by rw [ht107]; rfl⟩
  have hln : t107.length = 2 := by rw [ht107]; rfl
  have c3b0 : ((t107.length : Int) == 2) = true := by rw [hln]; rfl
  have c4b0 : decide (0 < (t107.length : Int)) = true := by rw [hln]; rfl
  have c6b0 : decide (1 < (t107.length : Int)) = true := by rw [hln]; rfl
  rw [← hy101, ← hy104, ← ht107] at hd
  have A1 := Aside0.mk hd
  have Ny101 := Aside0.mk hy101
  have Ny104 := Aside0.mk hy104
  clear hd hy101 hy104 ht107 hln
  go_enter Try.func8, Try.ntmps8
  go_wp2_with (first | ((with_reducible refine gate_dst (N := 6) rfl ?_); (try (refine gate_guard (by rfl) ?_; dsimp only)); refine Kd.R_lit k59 _ 59 ?hg (N := 6) ?hd (xs := ([(⟨(⟨#[97]⟩ : ByteArray), (⟨#[49]⟩ : ByteArray)⟩ : S59), (⟨(⟨#[98]⟩ : ByteArray), (⟨#[50]⟩ : ByteArray)⟩ : S59)] : List (S59))) (inner := [.string (⟨#[97]⟩ : ByteArray), .string (⟨#[49]⟩ : ByteArray), .string (⟨#[98]⟩ : ByteArray), .string (⟨#[50]⟩ : ByteArray)]) (ok := fun _ => True) (okp := fun _ => True) ?hr ?hp (fun _ hk => hk) trivial (Below.refl _ _) (Nat.le_refl _) (by simp) ?_; (case hd => rfl); (case hg => rfl); (case hr => first | (go_simp; done) | (go_simp; rfl)); (case hp => exact (Reps.c2 (show Kd.M k59 _ _ _ (⟨(⟨#[97]⟩ : ByteArray), (⟨#[49]⟩ : ByteArray)⟩ : S59) [.string (⟨#[97]⟩ : ByteArray), .string (⟨#[49]⟩ : ByteArray)] from (k59_mkM _ _ _ (⟨(⟨#[97]⟩ : ByteArray), (⟨#[49]⟩ : ByteArray)⟩ : S59) )) (Reps.c2 (show Kd.M k59 _ _ _ (⟨(⟨#[98]⟩ : ByteArray), (⟨#[50]⟩ : ByteArray)⟩ : S59) [.string (⟨#[98]⟩ : ByteArray), .string (⟨#[50]⟩ : ByteArray)] from (k59_mkM _ _ _ (⟨(⟨#[98]⟩ : ByteArray), (⟨#[50]⟩ : ByteArray)⟩ : S59) )) (Reps.none _ _)))); intro v102 w7 ho8 hb hg_ hnew_; clear hg_ hnew_; (first | rw [← Ny101.out] at ho8 | (simp only [Int.reduceToNat] at ho8; rw [← Ny101.out] at ho8)); have n0_ := Aside0.mk (Kd.R_lower ho8 (below_size (by repeat (first | (with_reducible first | exact HB.out | apply below_alloc | apply pw_below_drewN | apply below_drew1) | exact HB.out)))); have n1_ := Aside0.mk (below_step (by repeat (first | (with_reducible first | exact HB.out | apply below_alloc | apply pw_below_drewN | apply below_drew1) | exact HB.out)) hb); clear HB; have HO103 := n0_; have HB := n1_; clear n0_ n1_; clear hb ho8) | ((with_reducible refine gate_dst (N := 8) rfl ?_); (try (refine gate_guard (by rfl) ?_; dsimp only)); refine Kd.R_lit k59 _ 59 ?hg (N := 8) ?hd (xs := ([(⟨(⟨#[98]⟩ : ByteArray), (⟨#[51]⟩ : ByteArray)⟩ : S59)] : List (S59))) (inner := [.string (⟨#[98]⟩ : ByteArray), .string (⟨#[51]⟩ : ByteArray)]) (ok := fun _ => True) (okp := fun _ => True) ?hr ?hp (fun _ hk => hk) trivial (Below.refl _ _) (Nat.le_refl _) (by simp) ?_; (case hd => rfl); (case hg => rfl); (case hr => first | (go_simp; done) | (go_simp; rfl)); (case hp => exact (Reps.c2 (show Kd.M k59 _ _ _ (⟨(⟨#[98]⟩ : ByteArray), (⟨#[51]⟩ : ByteArray)⟩ : S59) [.string (⟨#[98]⟩ : ByteArray), .string (⟨#[51]⟩ : ByteArray)] from (k59_mkM _ _ _ (⟨(⟨#[98]⟩ : ByteArray), (⟨#[51]⟩ : ByteArray)⟩ : S59) )) (Reps.none _ _))); intro v105 w9 ho10 hb hg_ hnew_; clear hg_ hnew_; (first | rw [← Ny104.out] at ho10 | (simp only [Int.reduceToNat] at ho10; rw [← Ny104.out] at ho10)); have n0_ := Aside0.mk (Kd.R_elder' (by (with_reducible repeat (first | apply Kd.R_alloc | apply Kd.R_drewN | apply Kd.R_drew)); exact HO103.out) (Kd.R_base ho10) hb); have n1_ := Aside0.mk (Kd.R_lower (Kd.R_new' ho10 (Kd.R_lt (by (with_reducible repeat (first | apply Kd.R_alloc | apply Kd.R_drewN | apply Kd.R_drew)); exact HO103.out))) (below_size (by repeat (first | (with_reducible first | exact HB.out | apply below_alloc | apply pw_below_drewN | apply below_drew1) | exact HB.out)))); have n2_ := Aside0.mk (below_step (by repeat (first | (with_reducible first | exact HB.out | apply below_alloc | apply pw_below_drewN | apply below_drew1) | exact HB.out)) hb); clear HO103; clear HB; have HO103 := n0_; have HO106 := n1_; have HB := n2_; clear n0_ n1_ n2_; clear hb ho10; obtain ⟨Ao11, co11, eo11⟩ := Kd.R_slice HO103.out; subst eo11; obtain ⟨Ao12, co12, eo12⟩ := Kd.R_slice HO106.out; subst eo12) | ((with_reducible refine gate_callee (f := 11) rfl ?_); refine goesL_ (some 9) rfl rfl Try.func11 (by kernel_rfl) rfl #[.slice Ao11 y101.length co11, .slice Ao12 y104.length co12] rfl (by (try simp only [List.map_toArray, List.map_cons, List.map_nil]); first | done | rfl | (simp only [List.length_drop, List.length_take]; rfl)) ?_; (with_reducible refine (delta_Diff.calls _ _ y101 _ _ y104 t107 0 _ ?side1 ?side2 ?side3 ?side4 A1.out).mono ?_); (case side1 => repeat (first | exact (Kd.R_reads' HO103.out).2.2 | (with_reducible refine Kd.C_alloc ?_ _) | (with_reducible refine Kd.C_drewN ?_ _) | (with_reducible refine Kd.C_drew ?_))); (case side2 => exact (Kd.R_reads' HO103.out).2.1); (case side3 => repeat (first | exact (Kd.R_reads' HO106.out).2.2 | (with_reducible refine Kd.C_alloc ?_ _) | (with_reducible refine Kd.C_drewN ?_ _) | (with_reducible refine Kd.C_drew ?_))); (case side4 => exact (Kd.R_reads' HO106.out).2.1); rintro e w13 ⟨v109, rfl, ho0, hb⟩; refine ⟨_, rfl, ?_⟩; have n0_ := Aside0.mk (Kd.R_below (by (with_reducible repeat (first | apply Kd.R_alloc | apply Kd.R_drewN | apply Kd.R_drew)); exact HO103.out) hb); have n1_ := Aside0.mk (Kd.R_below (by (with_reducible repeat (first | apply Kd.R_alloc | apply Kd.R_drewN | apply Kd.R_drew)); exact HO106.out) hb); have n2_ := Aside0.mk (Kd.R_lower ho0 (below_size (by repeat (first | (with_reducible first | exact HB.out | apply below_alloc | apply pw_below_drewN | apply below_drew1) | exact HB.out)))); have n3_ := Aside0.mk (below_step (by repeat (first | (with_reducible first | exact HB.out | apply below_alloc | apply pw_below_drewN | apply below_drew1) | exact HB.out)) hb); clear HO103; clear HO106; clear HB; have HO103 := n0_; have HO106 := n1_; have HO110 := n2_; have HB := n3_; clear n0_ n1_ n2_ n3_; (try clear hb); (try clear hb2); (try clear hk); (try clear hi); (try clear ho0); obtain ⟨Ao14, co14, eo14⟩ := Kd.R_slice HO110.out; subst eo14; have p111 : 0 ≤ (0 : Int) := (by omega); have q111 : 0 < (t107.length : Int) := of_decide_eq_true (by first | (with_reducible assumption) | assumption); obtain ⟨ad111, e111, hx111_0, hx111_1, hx111_2, hx111_3, hx111_4⟩ := at_T61 (Kd.R_reads' HO110.out).2.2 0 p111 q111; cases e111; rw [E0.out] at hx111_0 hx111_1 hx111_2 hx111_3 hx111_4; have qi111 : (0 < t107.length) = True := eq_true (by omega); (try rw [show ((0 : Int)).toNat = 0 from rfl] at hx111_0); (try rw [show 0 * 5 = 0 from rfl] at hx111_0); (try rw [Addr.add_zero'] at hx111_0); (try rw [show ((0 : Int)).toNat = 0 from rfl] at hx111_1); (try rw [show 0 * 5 = 0 from rfl] at hx111_1); (try rw [Addr.add_zero'] at hx111_1); (try rw [show ((0 : Int)).toNat = 0 from rfl] at hx111_2); (try rw [show 0 * 5 = 0 from rfl] at hx111_2); (try rw [Addr.add_zero'] at hx111_2); (try rw [show ((0 : Int)).toNat = 0 from rfl] at hx111_3); (try rw [show 0 * 5 = 0 from rfl] at hx111_3); (try rw [Addr.add_zero'] at hx111_3); (try rw [show ((0 : Int)).toNat = 0 from rfl] at hx111_4); (try rw [show 0 * 5 = 0 from rfl] at hx111_4); (try rw [Addr.add_zero'] at hx111_4); replace p111 := eq_true p111; replace q111 := eq_true q111; have p112 : 0 ≤ (1 : Int) := (by omega); have q112 : 1 < (t107.length : Int) := of_decide_eq_true (by first | (with_reducible assumption) | assumption); obtain ⟨ad112, e112, hx112_0, hx112_1, hx112_2, hx112_3, hx112_4⟩ := at_T61 (Kd.R_reads' HO110.out).2.2 1 p112 q112; obtain rfl : ad111 = ad112 := (by injection e112); rw [E1.out] at hx112_0 hx112_1 hx112_2 hx112_3 hx112_4; (try simp only [show (1 : Int).toNat = 1 from rfl, Nat.reduceMul, Nat.reduceEqDiff, Go.Addr.add, ↓reduceIte] at hx112_0); (try simp only [show (1 : Int).toNat = 1 from rfl, Nat.reduceMul, Nat.reduceEqDiff, Go.Addr.add, ↓reduceIte] at hx112_1); (try simp only [show (1 : Int).toNat = 1 from rfl, Nat.reduceMul, Nat.reduceEqDiff, Go.Addr.add, ↓reduceIte] at hx112_2); (try simp only [show (1 : Int).toNat = 1 from rfl, Nat.reduceMul, Nat.reduceEqDiff, Go.Addr.add, ↓reduceIte] at hx112_3); (try simp only [show (1 : Int).toNat = 1 from rfl, Nat.reduceMul, Nat.reduceEqDiff, Go.Addr.add, ↓reduceIte] at hx112_4); have qi112 : (1 < t107.length) = True := eq_true (by omega); (try rw [show ((1 : Int)).toNat = 1 from rfl] at hx112_0); (try rw [show 1 * 5 = 5 from rfl] at hx112_0); (try rw [show ((1 : Int)).toNat = 1 from rfl] at hx112_1); (try rw [show 1 * 5 = 5 from rfl] at hx112_1); (try rw [show ((1 : Int)).toNat = 1 from rfl] at hx112_2); (try rw [show 1 * 5 = 5 from rfl] at hx112_2); (try rw [show ((1 : Int)).toNat = 1 from rfl] at hx112_3); (try rw [show 1 * 5 = 5 from rfl] at hx112_3); (try rw [show ((1 : Int)).toNat = 1 from rfl] at hx112_4); (try rw [show 1 * 5 = 5 from rfl] at hx112_4); replace p112 := eq_true p112; replace q112 := eq_true q112))
  go_ret
  exact ⟨ret_b (by first | rfl | decide | simp), by repeat (first | (with_reducible first | exact HB.out | apply below_alloc | apply pw_below_drewN | apply below_drew1) | exact HB.out)⟩


/-! ### coppiceref15_Great: function 9 -/
def coppiceref15_Great.l0 : Nat → List (S59) → Int → Option (Bool)
 | 0, _, _ => none
 | k + 1, x0, x3 => if x3 < (x0.length : Int) then (if 0 ≤ x3 then (if (((rd_T59 x0 x3).f0).size : Int) > 400 then (some true) else (if (((rd_T59 x0 x3).f1).size : Int) > 400 then (some true) else (coppiceref15_Great.l0 k x0 (wrap64 (x3 + 1))))) else (none)) else (some false)
def coppiceref15_Great.f (k : Nat) (l0 : List (S59)) : Option (Bool) := if (l0.length : Int) > 300 then (some true) else (coppiceref15_Great.l0 k l0 0)
theorem coppiceref15_Great.mono_l : ∀ k, (∀ y0 y1, LeO (coppiceref15_Great.l0 k y0 y1) (coppiceref15_Great.l0 (k + 1) y0 y1))
 | 0 => fun _ _ r h => by simp [coppiceref15_Great.l0] at h
 | k + 1 => by
  have ih0 := coppiceref15_Great.mono_l k
  ·intro y0 y1
   unfold coppiceref15_Great.l0
   repeat' first
   | (with_reducible exact ih0 _ _)
   | (with_reducible exact LeO.refl _)
   | (with_reducible exact LeO.none _)
   | (with_reducible refine LeO.ite ?_ ?_)
   | (with_reducible refine LeO.bind ?_ (fun _ => ?_))
   | exact ih0 _ _
   | exact LeO.none _
   | refine LeO.ite ?_ ?_
   | refine LeO.bind ?_ (fun _ => ?_)
theorem coppiceref15_Great.mono : ∀ a0 k, LeO (coppiceref15_Great.f k a0) (coppiceref15_Great.f (k + 1) a0) := by
 intro a0 k
 have ih0 := coppiceref15_Great.mono_l k
 unfold coppiceref15_Great.f
 repeat' first
   | (with_reducible exact ih0 _ _)
   | (with_reducible exact LeO.refl _)
   | (with_reducible exact LeO.none _)
   | (with_reducible refine LeO.ite ?_ ?_)
   | (with_reducible refine LeO.bind ?_ (fun _ => ?_))
   | exact ih0 _ _
   | exact LeO.none _
   | refine LeO.ite ?_ ?_
   | refine LeO.bind ?_ (fun _ => ?_)
set_option maxHeartbeats 8000000 in
set_option maxRecDepth 100000 in
theorem coppiceref15_Great.calls (k : Nat) (A0 : Option Addr) (c0 : Nat) (l0 : List (S59)) (r : Bool) (w : World) (hr0 : Kd.C k59 w A0 l0.length l0) (hc0 : l0.length ≤ c0) (h : coppiceref15_Great.f k l0 = some r) :
  Calls Try.prog 9 #[.slice A0 l0.length c0] w fun e w' => e = .returned (.bool r) ∧ Drawn0 w w' := by
 have HR0 := Aside0.mk hr0
 have HC0 := Aside0.mk hc0
 clear hr0 hc0
 have H : (if (l0.length : Int) > 300 then (some true) else (coppiceref15_Great.l0 k l0 0)) = some r := h
 clear h
 by_cases c2 : (l0.length : Int) > 300
 ·rw [if_pos c2] at H
  have c2b0 : decide (300 < (l0.length : Int)) = true := decide_eq_true c2
  have c2b1 : decide (300 < l0.length) = true := decide_eq_true (by omega)
  clear c2
  obtain rfl := Option.some.inj H
  go_enter Try.func9, Try.ntmps9
  go_wp2
  go_ret
  exact ⟨by first | rfl | (simp; done) | (simp [*]; done), by repeat (first | exact Drawn0.refl _ | apply Drawn0.step)⟩
 ·rw [if_neg c2] at H
  have c2b0 : decide (300 < (l0.length : Int)) = false := decide_eq_false c2
  have c2b1 : decide (300 < l0.length) = false := decide_eq_false (by omega)
  clear c2
  have H' := Aside0.mk H
  clear H
  go_enter Try.func9, Try.ntmps9
  go_wp2
  go_loopg [3] k (fun kq v3 w' => ∃ (x3_1 : Int), v3 = .int .i64 x3_1 ∧ Aside0 (coppiceref15_Great.l0 kq l0 x3_1 = some r) ∧ Aside0 (kq ≤ k) ∧ Drawn0 w w')
  case atStart => exact ⟨(0), (by first | rfl | (simp; done) | (simp [*]; done)), H', ⟨Nat.le_refl _⟩, by repeat (first | exact Drawn0.refl _ | apply Drawn0.step)⟩
  case round =>
   clear H'
   try clear c2
   try clear c2b0
   try clear c2b1
   try clear p2
   obtain ⟨x3_1, rfl, HA, HK1, ⟨m1, rfl⟩⟩ := hrel
   cases gk with
   | zero => exact absurd HA.out (by simp [coppiceref15_Great.l0])
   | succ k1 =>
    have H := HA.out
    clear HA
    simp only [coppiceref15_Great.l0] at H
    by_cases c3 : x3_1 < (l0.length : Int)
    ·rw [if_pos c3] at H
     have c3b0 : decide (x3_1 < (l0.length : Int)) = true := decide_eq_true c3
     clear c3
     by_cases c4 : 0 ≤ x3_1
     ·rw [if_pos c4] at H
      have c4b0 : decide (0 ≤ x3_1) = true := decide_eq_true c4
      clear c4
      by_cases c5 : (((rd_T59 l0 x3_1).f0).size : Int) > 400
      ·rw [if_pos c5] at H
       have c5b0 : decide (400 < (((rd_T59 l0 x3_1).f0).size : Int)) = true := decide_eq_true c5
       have c5b1 : decide (400 < ((rd_T59 l0 x3_1).f0).size) = true := decide_eq_true (by omega)
       clear c5
       obtain rfl := Option.some.inj H
       have p101 : 0 ≤ (x3_1 : Int) := of_decide_eq_true (by first | (with_reducible assumption) | assumption)
       have q101 : x3_1 < (l0.length : Int) := of_decide_eq_true (by first | (with_reducible assumption) | assumption)
       obtain ⟨ad101, e101, hx101_0, hx101_1⟩ := at_T59 HR0.out x3_1 p101 q101
       cases e101
       replace p101 := eq_true p101
       replace q101 := eq_true q101
       go_wp2
       go_ret
       exact ⟨by first | rfl | (simp; done) | (simp [*]; done), by repeat (first | exact Drawn0.refl _ | apply Drawn0.step)⟩
      ·rw [if_neg c5] at H
       have c5b0 : decide (400 < (((rd_T59 l0 x3_1).f0).size : Int)) = false := decide_eq_false c5
       have c5b1 : decide (400 < ((rd_T59 l0 x3_1).f0).size) = false := decide_eq_false (by omega)
       clear c5
       by_cases c6 : (((rd_T59 l0 x3_1).f1).size : Int) > 400
       ·rw [if_pos c6] at H
        have c6b0 : decide (400 < (((rd_T59 l0 x3_1).f1).size : Int)) = true := decide_eq_true c6
        have c6b1 : decide (400 < ((rd_T59 l0 x3_1).f1).size) = true := decide_eq_true (by omega)
        clear c6
        obtain rfl := Option.some.inj H
        have p101 : 0 ≤ (x3_1 : Int) := of_decide_eq_true (by first | (with_reducible assumption) | assumption)
        have q101 : x3_1 < (l0.length : Int) := of_decide_eq_true (by first | (with_reducible assumption) | assumption)
        obtain ⟨ad101, e101, hx101_0, hx101_1⟩ := at_T59 HR0.out x3_1 p101 q101
        cases e101
        replace p101 := eq_true p101
        replace q101 := eq_true q101
        have p102 : 0 ≤ (x3_1 : Int) := of_decide_eq_true (by first | (with_reducible assumption) | assumption)
        have q102 : x3_1 < (l0.length : Int) := of_decide_eq_true (by first | (with_reducible assumption) | assumption)
        obtain ⟨ad102, e102, hx102_0, hx102_1⟩ := at_T59 HR0.out x3_1 p102 q102
        obtain rfl : ad101 = ad102 := (by injection e102)
        replace p102 := eq_true p102
        replace q102 := eq_true q102
        go_wp2
        go_ret
        exact ⟨by first | rfl | (simp; done) | (simp [*]; done), by repeat (first | exact Drawn0.refl _ | apply Drawn0.step)⟩
       ·rw [if_neg c6] at H
        have c6b0 : decide (400 < (((rd_T59 l0 x3_1).f1).size : Int)) = false := decide_eq_false c6
        have c6b1 : decide (400 < ((rd_T59 l0 x3_1).f1).size) = false := decide_eq_false (by omega)
        clear c6
        have H' := Aside0.mk H
        clear H
        have p101 : 0 ≤ (x3_1 : Int) := of_decide_eq_true (by first | (with_reducible assumption) | assumption)
        have q101 : x3_1 < (l0.length : Int) := of_decide_eq_true (by first | (with_reducible assumption) | assumption)
        obtain ⟨ad101, e101, hx101_0, hx101_1⟩ := at_T59 HR0.out x3_1 p101 q101
        cases e101
        replace p101 := eq_true p101
        replace q101 := eq_true q101
        have p102 : 0 ≤ (x3_1 : Int) := of_decide_eq_true (by first | (with_reducible assumption) | assumption)
        have q102 : x3_1 < (l0.length : Int) := of_decide_eq_true (by first | (with_reducible assumption) | assumption)
        obtain ⟨ad102, e102, hx102_0, hx102_1⟩ := at_T59 HR0.out x3_1 p102 q102
        obtain rfl : ad101 = ad102 := (by injection e102)
        replace p102 := eq_true p102
        replace q102 := eq_true q102
        go_wp2
        go_roundg k1
        case measure => have := HK1.out; omega
        case rel => exact ⟨(wrap64 (x3_1 + 1)), (by first | rfl | (simp; done) | (simp [*]; done)), H', ⟨by have := HK1.out; omega⟩, by repeat (first | exact Drawn0.refl _ | apply Drawn0.step)⟩
     ·rw [if_neg c4] at H
      exact absurd H (by simp)
    ·rw [if_neg c3] at H
     have c3b0 : decide (x3_1 < (l0.length : Int)) = false := decide_eq_false c3
     clear c3
     obtain rfl := Option.some.inj H
     go_wp2
     go_ret
     exact ⟨by first | rfl | (simp; done) | (simp [*]; done), by repeat (first | exact Drawn0.refl _ | apply Drawn0.step)⟩

end Go.Proofs.Ytcocddpknkklhaa.PA
