-- WRITTEN BY a program of this session (pp.sh)
import Derived.Test.YtgnffienfjigiaaDoorPAx0
import Derived.Test.YtgnffienfjigiaaDoorPAx6
namespace Go.Proofs.YtgnffienfjigiaaDoor.PA
open Go.RowKit Go.Proofs.YtgnffienfjigiaaDoorW.PrintWords Go.Proofs.YtgnffienfjigiaaDoorW.PrintLast Go.Proofs.YtgnffienfjigiaaDoorW.PrintMore Go.Proofs.YtgnffienfjigiaaDoor.Plain
attribute [local go_sem] max2_int min2_int max_two min_two max_three min_three max_four min_four binOp_leq_s binOp_gtr_s binOp_geq_s lit_byte   -- for this text's walks alone
set_option linter.unusedVariables false
set_option linter.unusedSimpArgs false

/-! ### coppicelaw13_awake: function 9 -/
def coppicelaw13_awake.f (k : Nat)  : Option (Bool) := (sparse_Write.f k ([] : List (S39)) 0 200 (⟨#[120]⟩ : ByteArray)).bind fun bt111 => (if bt111.2.2 = 0 then (if bt111.2.1 = 201 then (if (bt111.1.length : Int) = 1 then (if 0 < (bt111.1.length : Int) then (if ((rd_T39 bt111.1 0).f0) = 3 then (if (((rd_T39 bt111.1 0).f1).size : Int) = 64 then (if 8 < (((rd_T39 bt111.1 0).f1).size : Int) then (some ((bt ((rd_T39 bt111.1 0).f1) 8) == 120)) else (none)) else (some false)) else (some false)) else (none)) else (some false)) else (some false)) else (some false))
theorem coppicelaw13_awake.mono : ∀ k, LeO (coppicelaw13_awake.f k ) (coppicelaw13_awake.f (k + 1) ) := by
 intro  k
 unfold coppicelaw13_awake.f
 repeat' first
   | (with_reducible exact sparse_Write.mono _ _ _ _ _)
   | (with_reducible exact LeO.refl _)
   | (with_reducible exact LeO.none _)
   | (with_reducible refine LeO.ite ?_ ?_)
   | (with_reducible refine LeO.bind ?_ (fun _ => ?_))
   | exact sparse_Write.mono _ _ _ _ _
   | exact LeO.none _
   | refine LeO.ite ?_ ?_
   | refine LeO.bind ?_ (fun _ => ?_)
set_option maxHeartbeats 8000000 in
set_option maxRecDepth 100000 in
theorem coppicelaw13_awake.calls (k : Nat)  (r : Bool) (w : World) (h : coppicelaw13_awake.f k  = some r) :
  Calls Tryd.prog 9 #[] w fun e w' => e = .returned (.bool r) ∧ Below w.heap.size w w' := by
 have HB := Aside0.mk (Below.refl w.heap.size w)
 have H : ((sparse_Write.f k ([] : List (S39)) 0 200 (⟨#[120]⟩ : ByteArray)).bind fun bt111 => (if bt111.2.2 = 0 then (if bt111.2.1 = 201 then (if (bt111.1.length : Int) = 1 then (if 0 < (bt111.1.length : Int) then (if ((rd_T39 bt111.1 0).f0) = 3 then (if (((rd_T39 bt111.1 0).f1).size : Int) = 64 then (if 8 < (((rd_T39 bt111.1 0).f1).size : Int) then (some ((bt ((rd_T39 bt111.1 0).f1) 8) == 120)) else (none)) else (some false)) else (some false)) else (none)) else (some false)) else (some false)) else (some false))) = some r := h
 clear h
 replace H := Option.bind_eq_some_iff.mp H
 obtain ⟨⟨t111, t112, t113⟩, A10, H⟩ := H
 replace H : (if t113 = 0 then (if t112 = 201 then (if (t111.length : Int) = 1 then (if 0 < (t111.length : Int) then (if ((rd_T39 t111 0).f0) = 3 then (if (((rd_T39 t111 0).f1).size : Int) = 64 then (if 8 < (((rd_T39 t111 0).f1).size : Int) then (some ((bt ((rd_T39 t111 0).f1) 8) == 120)) else (none)) else (some false)) else (some false)) else (none)) else (some false)) else (some false)) else (some false)) = some r := H
 have A1 := Aside0.mk A10
 clear A10
 by_cases c2 : t113 = 0
 ·rw [if_pos c2] at H
  have c2b0 : (t113 == 0) = true := beq_iff_eq.mpr c2
  have c2b1 : (t113 != 0) = false := bne_eq_false_iff_eq.mpr c2
  clear c2
  by_cases c3 : t112 = 201
  ·rw [if_pos c3] at H
   have c3b0 : (t112 == 201) = true := beq_iff_eq.mpr c3
   have c3b1 : (t112 != 201) = false := bne_eq_false_iff_eq.mpr c3
   clear c3
   by_cases c4 : (t111.length : Int) = 1
   ·rw [if_pos c4] at H
    have c4b0 : ((t111.length : Int) == 1) = true := beq_iff_eq.mpr c4
    have c4b1 : ((t111.length : Int) != 1) = false := bne_eq_false_iff_eq.mpr c4
    clear c4
    by_cases c5 : 0 < (t111.length : Int)
    ·rw [if_pos c5] at H
     have c5b0 : decide (0 < (t111.length : Int)) = true := decide_eq_true c5
     have c5b1 : decide (0 < t111.length) = true := decide_eq_true (by omega)
     clear c5
     by_cases c6 : ((rd_T39 t111 0).f0) = 3
     ·rw [if_pos c6] at H
      have c6b0 : (((rd_T39 t111 0).f0) == 3) = true := beq_iff_eq.mpr c6
      have c6b1 : (((rd_T39 t111 0).f0) != 3) = false := bne_eq_false_iff_eq.mpr c6
      clear c6
      by_cases c7 : (((rd_T39 t111 0).f1).size : Int) = 64
      ·rw [if_pos c7] at H
       have c7b0 : ((((rd_T39 t111 0).f1).size : Int) == 64) = true := beq_iff_eq.mpr c7
       have c7b1 : ((((rd_T39 t111 0).f1).size : Int) != 64) = false := bne_eq_false_iff_eq.mpr c7
       clear c7
       by_cases c8 : 8 < (((rd_T39 t111 0).f1).size : Int)
       ·rw [if_pos c8] at H
        have c8b0 : decide (8 < (((rd_T39 t111 0).f1).size : Int)) = true := decide_eq_true c8
        have c8b1 : decide (8 < ((rd_T39 t111 0).f1).size) = true := decide_eq_true (by omega)
        clear c8
        obtain rfl := Option.some.inj H
        go_enter Tryd.func9, Tryd.ntmps9
        go_wp2_with (first | ((with_reducible refine gate_callee (f := 11) rfl ?_); refine goesL_ (some 5) rfl rfl Tryd.func11 (by kernel_rfl) rfl #[.slice none 0 0, .int .i64 0, .int .i64 200, .string (⟨#[120]⟩ : ByteArray)] rfl (by (try simp only [List.map_toArray, List.map_cons, List.map_nil]); first | done | rfl | (simp only [List.length_drop, List.length_take]; rfl)) ?_; (refine (sparse_Write.calls k _ _ ([] : List (S39)) 0 200 (⟨#[120]⟩ : ByteArray) t111 t112 t113 _ ?side1 ?side2 A1.out).mono ?_); (case side1 => exact Kd.C_nil _ _); (case side2 => exact Nat.le_refl _); rintro e w10 ⟨v114, rfl, ho0, hb⟩; refine ⟨_, rfl, ?_⟩; have n0_ := Aside0.mk (Kd.R_lower ho0 (below_size (by repeat (first | (with_reducible first | exact HB.out | apply below_alloc | apply pw_below_drewN | apply below_drew1) | exact HB.out)))); have n1_ := Aside0.mk (below_step (by repeat (first | (with_reducible first | exact HB.out | apply below_alloc | apply pw_below_drewN | apply below_drew1) | exact HB.out)) hb); clear HB; have HO115 := n0_; have HB := n1_; clear n0_ n1_; (try clear hb); (try clear hb2); (try clear hk); (try clear hi); (try clear ho0); obtain ⟨Ao11, co11, eo11⟩ := Kd.R_slice HO115.out; subst eo11; have p116 : 0 ≤ (0 : Int) := (by omega); have q116 : 0 < (t111.length : Int) := of_decide_eq_true (by first | (with_reducible assumption) | assumption); obtain ⟨ad116, e116, hx116_0, hx116_1⟩ := at_T39 (Kd.R_reads' HO115.out).2.2 0 p116 q116; cases e116; have qi116 : (0 < t111.length) = True := eq_true (by omega); (try rw [show ((0 : Int)).toNat = 0 from rfl] at hx116_0); (try rw [show 0 * 2 = 0 from rfl] at hx116_0); (try rw [Addr.add_zero'] at hx116_0); (try rw [show ((0 : Int)).toNat = 0 from rfl] at hx116_1); (try rw [show 0 * 2 = 0 from rfl] at hx116_1); (try rw [Addr.add_zero'] at hx116_1); replace p116 := eq_true p116; replace q116 := eq_true q116; have p117 : 0 ≤ (0 : Int) := (by omega); have q117 : 0 < (t111.length : Int) := of_decide_eq_true (by first | (with_reducible assumption) | assumption); obtain ⟨ad117, e117, hx117_0, hx117_1⟩ := at_T39 (Kd.R_reads' HO115.out).2.2 0 p117 q117; obtain rfl : ad116 = ad117 := (by injection e117); have qi117 : (0 < t111.length) = True := eq_true (by omega); (try rw [show ((0 : Int)).toNat = 0 from rfl] at hx117_0); (try rw [show 0 * 2 = 0 from rfl] at hx117_0); (try rw [Addr.add_zero'] at hx117_0); (try rw [show ((0 : Int)).toNat = 0 from rfl] at hx117_1); (try rw [show 0 * 2 = 0 from rfl] at hx117_1); (try rw [Addr.add_zero'] at hx117_1); replace p117 := eq_true p117; replace q117 := eq_true q117; have p118 : 0 ≤ (0 : Int) := (by omega); have q118 : 0 < (t111.length : Int) := of_decide_eq_true (by first | (with_reducible assumption) | assumption); obtain ⟨ad118, e118, hx118_0, hx118_1⟩ := at_T39 (Kd.R_reads' HO115.out).2.2 0 p118 q118; obtain rfl : ad116 = ad118 := (by injection e118); have qi118 : (0 < t111.length) = True := eq_true (by omega); (try rw [show ((0 : Int)).toNat = 0 from rfl] at hx118_0); (try rw [show 0 * 2 = 0 from rfl] at hx118_0); (try rw [Addr.add_zero'] at hx118_0); (try rw [show ((0 : Int)).toNat = 0 from rfl] at hx118_1); (try rw [show 0 * 2 = 0 from rfl] at hx118_1); (try rw [Addr.add_zero'] at hx118_1); replace p118 := eq_true p118; replace q118 := eq_true q118; have p9 : 0 ≤ (8 : Int) := (by omega); have q9 : 8 < ((rd_T39 t111 0).f1).size := (by have : (8 : Int) < (((rd_T39 t111 0).f1).size : Int) := of_decide_eq_true (by first | (with_reducible assumption) | assumption); omega); have hx9 : ∀ h : 8 < ((rd_T39 t111 0).f1).size, ((((rd_T39 t111 0).f1)[8]'h).toNat : Int) = bt ((rd_T39 t111 0).f1) 8 := bt_at ((rd_T39 t111 0).f1) 8; clear p9; have qi9 : (8 < (((rd_T39 t111 0).f1).size : Int)) = True := eq_true (of_decide_eq_true (by first | (with_reducible assumption) | assumption)); replace q9 := eq_true q9))
        go_ret
        exact ⟨by first | rfl | (simp [errW_none, errW_some] <;> rfl) | (simp [*, errW_none, errW_some] <;> rfl), by repeat (first | (with_reducible first | exact HB.out | apply below_alloc | apply pw_below_drewN | apply below_drew1) | exact HB.out)⟩
       ·rw [if_neg c8] at H
        exact absurd H (by simp)
      ·rw [if_neg c7] at H
       have c7b0 : ((((rd_T39 t111 0).f1).size : Int) == 64) = false := beq_eq_false_iff_ne.mpr c7
       have c7b1 : ((((rd_T39 t111 0).f1).size : Int) != 64) = true := bne_iff_ne.mpr c7
       obtain rfl := Option.some.inj H
       go_enter Tryd.func9, Tryd.ntmps9
       go_wp2_with (first | ((with_reducible refine gate_callee (f := 11) rfl ?_); refine goesL_ (some 5) rfl rfl Tryd.func11 (by kernel_rfl) rfl #[.slice none 0 0, .int .i64 0, .int .i64 200, .string (⟨#[120]⟩ : ByteArray)] rfl (by (try simp only [List.map_toArray, List.map_cons, List.map_nil]); first | done | rfl | (simp only [List.length_drop, List.length_take]; rfl)) ?_; (refine (sparse_Write.calls k _ _ ([] : List (S39)) 0 200 (⟨#[120]⟩ : ByteArray) t111 t112 t113 _ ?side1 ?side2 A1.out).mono ?_); (case side1 => exact Kd.C_nil _ _); (case side2 => exact Nat.le_refl _); rintro e w12 ⟨v114, rfl, ho0, hb⟩; refine ⟨_, rfl, ?_⟩; have n0_ := Aside0.mk (Kd.R_lower ho0 (below_size (by repeat (first | (with_reducible first | exact HB.out | apply below_alloc | apply pw_below_drewN | apply below_drew1) | exact HB.out)))); have n1_ := Aside0.mk (below_step (by repeat (first | (with_reducible first | exact HB.out | apply below_alloc | apply pw_below_drewN | apply below_drew1) | exact HB.out)) hb); clear HB; have HO115 := n0_; have HB := n1_; clear n0_ n1_; (try clear hb); (try clear hb2); (try clear hk); (try clear hi); (try clear ho0); obtain ⟨Ao13, co13, eo13⟩ := Kd.R_slice HO115.out; subst eo13; have p116 : 0 ≤ (0 : Int) := (by omega); have q116 : 0 < (t111.length : Int) := of_decide_eq_true (by first | (with_reducible assumption) | assumption); obtain ⟨ad116, e116, hx116_0, hx116_1⟩ := at_T39 (Kd.R_reads' HO115.out).2.2 0 p116 q116; cases e116; have qi116 : (0 < t111.length) = True := eq_true (by omega); (try rw [show ((0 : Int)).toNat = 0 from rfl] at hx116_0); (try rw [show 0 * 2 = 0 from rfl] at hx116_0); (try rw [Addr.add_zero'] at hx116_0); (try rw [show ((0 : Int)).toNat = 0 from rfl] at hx116_1); (try rw [show 0 * 2 = 0 from rfl] at hx116_1); (try rw [Addr.add_zero'] at hx116_1); replace p116 := eq_true p116; replace q116 := eq_true q116; have p117 : 0 ≤ (0 : Int) := (by omega); have q117 : 0 < (t111.length : Int) := of_decide_eq_true (by first | (with_reducible assumption) | assumption); obtain ⟨ad117, e117, hx117_0, hx117_1⟩ := at_T39 (Kd.R_reads' HO115.out).2.2 0 p117 q117; obtain rfl : ad116 = ad117 := (by injection e117); have qi117 : (0 < t111.length) = True := eq_true (by omega); (try rw [show ((0 : Int)).toNat = 0 from rfl] at hx117_0); (try rw [show 0 * 2 = 0 from rfl] at hx117_0); (try rw [Addr.add_zero'] at hx117_0); (try rw [show ((0 : Int)).toNat = 0 from rfl] at hx117_1); (try rw [show 0 * 2 = 0 from rfl] at hx117_1); (try rw [Addr.add_zero'] at hx117_1); replace p117 := eq_true p117; replace q117 := eq_true q117))
       go_ret
       exact ⟨by first | rfl | (simp [errW_none, errW_some] <;> rfl) | (simp [*, errW_none, errW_some] <;> rfl), by repeat (first | (with_reducible first | exact HB.out | apply below_alloc | apply pw_below_drewN | apply below_drew1) | exact HB.out)⟩
     ·rw [if_neg c6] at H
      have c6b0 : (((rd_T39 t111 0).f0) == 3) = false := beq_eq_false_iff_ne.mpr c6
      have c6b1 : (((rd_T39 t111 0).f0) != 3) = true := bne_iff_ne.mpr c6
      obtain rfl := Option.some.inj H
      go_enter Tryd.func9, Tryd.ntmps9
      go_wp2_with (first | ((with_reducible refine gate_callee (f := 11) rfl ?_); refine goesL_ (some 5) rfl rfl Tryd.func11 (by kernel_rfl) rfl #[.slice none 0 0, .int .i64 0, .int .i64 200, .string (⟨#[120]⟩ : ByteArray)] rfl (by (try simp only [List.map_toArray, List.map_cons, List.map_nil]); first | done | rfl | (simp only [List.length_drop, List.length_take]; rfl)) ?_; (refine (sparse_Write.calls k _ _ ([] : List (S39)) 0 200 (⟨#[120]⟩ : ByteArray) t111 t112 t113 _ ?side1 ?side2 A1.out).mono ?_); (case side1 => exact Kd.C_nil _ _); (case side2 => exact Nat.le_refl _); rintro e w14 ⟨v114, rfl, ho0, hb⟩; refine ⟨_, rfl, ?_⟩; have n0_ := Aside0.mk (Kd.R_lower ho0 (below_size (by repeat (first | (with_reducible first | exact HB.out | apply below_alloc | apply pw_below_drewN | apply below_drew1) | exact HB.out)))); have n1_ := Aside0.mk (below_step (by repeat (first | (with_reducible first | exact HB.out | apply below_alloc | apply pw_below_drewN | apply below_drew1) | exact HB.out)) hb); clear HB; have HO115 := n0_; have HB := n1_; clear n0_ n1_; (try clear hb); (try clear hb2); (try clear hk); (try clear hi); (try clear ho0); obtain ⟨Ao15, co15, eo15⟩ := Kd.R_slice HO115.out; subst eo15; have p116 : 0 ≤ (0 : Int) := (by omega); have q116 : 0 < (t111.length : Int) := of_decide_eq_true (by first | (with_reducible assumption) | assumption); obtain ⟨ad116, e116, hx116_0, hx116_1⟩ := at_T39 (Kd.R_reads' HO115.out).2.2 0 p116 q116; cases e116; have qi116 : (0 < t111.length) = True := eq_true (by omega); (try rw [show ((0 : Int)).toNat = 0 from rfl] at hx116_0); (try rw [show 0 * 2 = 0 from rfl] at hx116_0); (try rw [Addr.add_zero'] at hx116_0); (try rw [show ((0 : Int)).toNat = 0 from rfl] at hx116_1); (try rw [show 0 * 2 = 0 from rfl] at hx116_1); (try rw [Addr.add_zero'] at hx116_1); replace p116 := eq_true p116; replace q116 := eq_true q116))
      go_ret
      exact ⟨by first | rfl | (simp [errW_none, errW_some] <;> rfl) | (simp [*, errW_none, errW_some] <;> rfl), by repeat (first | (with_reducible first | exact HB.out | apply below_alloc | apply pw_below_drewN | apply below_drew1) | exact HB.out)⟩
    ·rw [if_neg c5] at H
     exact absurd H (by simp)
   ·rw [if_neg c4] at H
    have c4b0 : ((t111.length : Int) == 1) = false := beq_eq_false_iff_ne.mpr c4
    have c4b1 : ((t111.length : Int) != 1) = true := bne_iff_ne.mpr c4
    obtain rfl := Option.some.inj H
    go_enter Tryd.func9, Tryd.ntmps9
    go_wp2_with (first | ((with_reducible refine gate_callee (f := 11) rfl ?_); refine goesL_ (some 5) rfl rfl Tryd.func11 (by kernel_rfl) rfl #[.slice none 0 0, .int .i64 0, .int .i64 200, .string (⟨#[120]⟩ : ByteArray)] rfl (by (try simp only [List.map_toArray, List.map_cons, List.map_nil]); first | done | rfl | (simp only [List.length_drop, List.length_take]; rfl)) ?_; (refine (sparse_Write.calls k _ _ ([] : List (S39)) 0 200 (⟨#[120]⟩ : ByteArray) t111 t112 t113 _ ?side1 ?side2 A1.out).mono ?_); (case side1 => exact Kd.C_nil _ _); (case side2 => exact Nat.le_refl _); rintro e w16 ⟨v114, rfl, ho0, hb⟩; refine ⟨_, rfl, ?_⟩; have n0_ := Aside0.mk (Kd.R_lower ho0 (below_size (by repeat (first | (with_reducible first | exact HB.out | apply below_alloc | apply pw_below_drewN | apply below_drew1) | exact HB.out)))); have n1_ := Aside0.mk (below_step (by repeat (first | (with_reducible first | exact HB.out | apply below_alloc | apply pw_below_drewN | apply below_drew1) | exact HB.out)) hb); clear HB; have HO115 := n0_; have HB := n1_; clear n0_ n1_; (try clear hb); (try clear hb2); (try clear hk); (try clear hi); (try clear ho0); obtain ⟨Ao17, co17, eo17⟩ := Kd.R_slice HO115.out; subst eo17))
    go_ret
    exact ⟨by first | rfl | (simp [errW_none, errW_some] <;> rfl) | (simp [*, errW_none, errW_some] <;> rfl), by repeat (first | (with_reducible first | exact HB.out | apply below_alloc | apply pw_below_drewN | apply below_drew1) | exact HB.out)⟩
  ·rw [if_neg c3] at H
   have c3b0 : (t112 == 201) = false := beq_eq_false_iff_ne.mpr c3
   have c3b1 : (t112 != 201) = true := bne_iff_ne.mpr c3
   obtain rfl := Option.some.inj H
   go_enter Tryd.func9, Tryd.ntmps9
   go_wp2_with (first | ((with_reducible refine gate_callee (f := 11) rfl ?_); refine goesL_ (some 5) rfl rfl Tryd.func11 (by kernel_rfl) rfl #[.slice none 0 0, .int .i64 0, .int .i64 200, .string (⟨#[120]⟩ : ByteArray)] rfl (by (try simp only [List.map_toArray, List.map_cons, List.map_nil]); first | done | rfl | (simp only [List.length_drop, List.length_take]; rfl)) ?_; (refine (sparse_Write.calls k _ _ ([] : List (S39)) 0 200 (⟨#[120]⟩ : ByteArray) t111 t112 t113 _ ?side1 ?side2 A1.out).mono ?_); (case side1 => exact Kd.C_nil _ _); (case side2 => exact Nat.le_refl _); rintro e w18 ⟨v114, rfl, ho0, hb⟩; refine ⟨_, rfl, ?_⟩; have n0_ := Aside0.mk (Kd.R_lower ho0 (below_size (by repeat (first | (with_reducible first | exact HB.out | apply below_alloc | apply pw_below_drewN | apply below_drew1) | exact HB.out)))); have n1_ := Aside0.mk (below_step (by repeat (first | (with_reducible first | exact HB.out | apply below_alloc | apply pw_below_drewN | apply below_drew1) | exact HB.out)) hb); clear HB; have HO115 := n0_; have HB := n1_; clear n0_ n1_; (try clear hb); (try clear hb2); (try clear hk); (try clear hi); (try clear ho0)))
   go_ret
   exact ⟨by first | rfl | (simp [errW_none, errW_some] <;> rfl) | (simp [*, errW_none, errW_some] <;> rfl), by repeat (first | (with_reducible first | exact HB.out | apply below_alloc | apply pw_below_drewN | apply below_drew1) | exact HB.out)⟩
 ·rw [if_neg c2] at H
  have c2b0 : (t113 == 0) = false := beq_eq_false_iff_ne.mpr c2
  have c2b1 : (t113 != 0) = true := bne_iff_ne.mpr c2
  obtain rfl := Option.some.inj H
  go_enter Tryd.func9, Tryd.ntmps9
  go_wp2_with (first | ((with_reducible refine gate_callee (f := 11) rfl ?_); refine goesL_ (some 5) rfl rfl Tryd.func11 (by kernel_rfl) rfl #[.slice none 0 0, .int .i64 0, .int .i64 200, .string (⟨#[120]⟩ : ByteArray)] rfl (by (try simp only [List.map_toArray, List.map_cons, List.map_nil]); first | done | rfl | (simp only [List.length_drop, List.length_take]; rfl)) ?_; (refine (sparse_Write.calls k _ _ ([] : List (S39)) 0 200 (⟨#[120]⟩ : ByteArray) t111 t112 t113 _ ?side1 ?side2 A1.out).mono ?_); (case side1 => exact Kd.C_nil _ _); (case side2 => exact Nat.le_refl _); rintro e w19 ⟨v114, rfl, ho0, hb⟩; refine ⟨_, rfl, ?_⟩; have n0_ := Aside0.mk (Kd.R_lower ho0 (below_size (by repeat (first | (with_reducible first | exact HB.out | apply below_alloc | apply pw_below_drewN | apply below_drew1) | exact HB.out)))); have n1_ := Aside0.mk (below_step (by repeat (first | (with_reducible first | exact HB.out | apply below_alloc | apply pw_below_drewN | apply below_drew1) | exact HB.out)) hb); clear HB; have HO115 := n0_; have HB := n1_; clear n0_ n1_; (try clear hb); (try clear hb2); (try clear hk); (try clear hi); (try clear ho0)))
  go_ret
  exact ⟨by first | rfl | (simp [errW_none, errW_some] <;> rfl) | (simp [*, errW_none, errW_some] <;> rfl), by repeat (first | (with_reducible first | exact HB.out | apply below_alloc | apply pw_below_drewN | apply below_drew1) | exact HB.out)⟩

end Go.Proofs.YtgnffienfjigiaaDoor.PA
