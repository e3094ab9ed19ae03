-- WRITTEN BY a program of this session (pp.sh)
import Derived.Test.YtkfmilfmpmmpkaaDoorPBx0
import Derived.Test.YtkfmilfmpmmpkaaDoorPBx15
import Derived.Test.YtkfmilfmpmmpkaaDoorPBx16
import Derived.Test.YtkfmilfmpmmpkaaDoorPBx18
import Derived.Test.YtkfmilfmpmmpkaaDoorPBx20
namespace Go.Proofs.YtkfmilfmpmmpkaaDoor.PB
open Go.RowKit Go.Proofs.YtkfmilfmpmmpkaaDoorW.PrintWords Go.Proofs.YtkfmilfmpmmpkaaDoorW.PrintLast Go.Proofs.YtkfmilfmpmmpkaaDoorW.PrintMore Go.Proofs.YtkfmilfmpmmpkaaDoor.Plain
attribute [local go_sem] max2_int min2_int max_two min_two max_three min_three max_four min_four binOp_leq_s binOp_gtr_s binOp_geq_s lit_byte   -- for this text's walks alone
set_option linter.unusedVariables false
set_option linter.unusedSimpArgs false

/-! ### coppiceref12_Lead: function 23 -/
def coppiceref12_Lead.l0 : Nat → List ByteArray → Int → Option (List ByteArray × Bool × Int)
  | 0, _, _ => none
  | k + 1, x7, x8 => if x8 < (x7.length : Int) then (if 0 ≤ x8 then ((coppiceref12_Name.f k (rdOf ByteArray.empty x7 x8)).bind fun t245 => (if t245 = true then (coppiceref12_Lead.l0 k x7 (wrap64 (x8 + 1))) else (if (rdOf ByteArray.empty x7 x8).toList = ([46, 46] : List UInt8) then (coppiceref12_Lead.l0 k x7 (wrap64 (x8 + 1))) else (some (([] : List ByteArray), false, 120))))) else (none)) else (if (x7.length : Int) > 32 then (some (([] : List ByteArray), false, 120)) else (some (x7, false, 0)))
def coppiceref12_Lead.f (k : Nat) (a0 : ByteArray) : Option (List ByteArray × Bool × Int) := (coppiceref12_Target.f k a0).bind fun t236 => (if t236 = true then (if 0 < (a0.size : Int) then (if (bt a0 0) = 47 then ((coppiceref12_Split.f k a0).bind fun bt237 => (some (bt237.1, (bt237.2 == 0), bt237.2))) else ((coppiceref12_cut.f k a0).bind fun t241 => (coppiceref12_Lead.l0 k t241 0))) else (none)) else (some (([] : List ByteArray), false, 120)))
theorem coppiceref12_Lead.mono_l : ∀ k, (∀ y0 y1, LeO (coppiceref12_Lead.l0 k y0 y1) (coppiceref12_Lead.l0 (k + 1) y0 y1))
  | 0 => fun _ _ r h => by simp [coppiceref12_Lead.l0] at h
  | k + 1 => by
    have ih0 := coppiceref12_Lead.mono_l k
    · intro y0 y1
      unfold coppiceref12_Lead.l0
      repeat' first
      | (with_reducible exact ih0 _ _)
      | (with_reducible exact coppiceref12_Name.mono _ _)
      | (with_reducible exact coppiceref12_Split.mono _ _)
      | (with_reducible exact coppiceref12_Target.mono _ _)
      | (with_reducible exact coppiceref12_cut.mono _ _)
      | (with_reducible exact LeO.refl _)
      | (with_reducible exact LeO.none _)
      | (with_reducible refine LeO.ite ?_ ?_)
      | (with_reducible refine LeO.bind ?_ (fun _ => ?_))
      | exact ih0 _ _
      | exact coppiceref12_Name.mono _ _
      | exact coppiceref12_Split.mono _ _
      | exact coppiceref12_Target.mono _ _
      | exact coppiceref12_cut.mono _ _
      | exact LeO.none _
      | refine LeO.ite ?_ ?_
      | refine LeO.bind ?_ (fun _ => ?_)
theorem coppiceref12_Lead.mono : ∀ a0 k, LeO (coppiceref12_Lead.f k a0) (coppiceref12_Lead.f (k + 1) a0) := by
  intro a0 k
  have ih0 := coppiceref12_Lead.mono_l k
  unfold coppiceref12_Lead.f
  repeat' first
      | (with_reducible exact ih0 _ _)
      | (with_reducible exact coppiceref12_Name.mono _ _)
      | (with_reducible exact coppiceref12_Split.mono _ _)
      | (with_reducible exact coppiceref12_Target.mono _ _)
      | (with_reducible exact coppiceref12_cut.mono _ _)
      | (with_reducible exact LeO.refl _)
      | (with_reducible exact LeO.none _)
      | (with_reducible refine LeO.ite ?_ ?_)
      | (with_reducible refine LeO.bind ?_ (fun _ => ?_))
      | exact ih0 _ _
      | exact coppiceref12_Name.mono _ _
      | exact coppiceref12_Split.mono _ _
      | exact coppiceref12_Target.mono _ _
      | exact coppiceref12_cut.mono _ _
      | exact LeO.none _
      | refine LeO.ite ?_ ?_
      | refine LeO.bind ?_ (fun _ => ?_)
set_option maxHeartbeats 8000000 in
set_option maxRecDepth 100000 in
theorem coppiceref12_Lead.calls (k : Nat) (a0 : ByteArray) (r1 : List ByteArray) (r2 : Bool) (r3 : Int) (w : World) (h : coppiceref12_Lead.f k a0 = some (r1, r2, r3)) :
    Calls Tryd.prog 23 #[.string a0] w fun e w' => ∃ v0_ : Value, e = .returned (.tuple #[v0_, .bool r2, .int .i64 r3]) ∧ Kd.R Kd.string 9 w' w.heap.size (fun _ => True) v0_ r1 ∧ Below w.heap.size w w' := by
  have HB := Aside0.mk (Below.refl w.heap.size w)
  have H : ((coppiceref12_Target.f k a0).bind fun t236 => (if t236 = true then (if 0 < (a0.size : Int) then (if (bt a0 0) = 47 then ((coppiceref12_Split.f k a0).bind fun bt237 => (some (bt237.1, (bt237.2 == 0), bt237.2))) else ((coppiceref12_cut.f k a0).bind fun t241 => (coppiceref12_Lead.l0 k t241 0))) else (none)) else (some (([] : List ByteArray), false, 120)))) = some (r1, r2, r3) := h
  clear h
  replace H := Option.bind_eq_some_iff.mp H
  obtain ⟨t236, A20, H⟩ := H
  replace H : (if t236 = true then (if 0 < (a0.size : Int) then (if (bt a0 0) = 47 then ((coppiceref12_Split.f k a0).bind fun bt237 => (some (bt237.1, (bt237.2 == 0), bt237.2))) else ((coppiceref12_cut.f k a0).bind fun t241 => (coppiceref12_Lead.l0 k t241 0))) else (none)) else (some (([] : List ByteArray), false, 120))) = some (r1, r2, r3) := H
  have A2 := Aside0.mk A20
  clear A20
  by_cases c3 : t236 = true
  · subst c3
    have H1 : (if 0 < (a0.size : Int) then (if (bt a0 0) = 47 then ((coppiceref12_Split.f k a0).bind fun bt237 => (some (bt237.1, (bt237.2 == 0), bt237.2))) else ((coppiceref12_cut.f k a0).bind fun t241 => (coppiceref12_Lead.l0 k t241 0))) else (none)) = some (r1, r2, r3) := by rw [if_pos rfl] at H; exact H
    clear H
    have H := H1
    clear H1
    by_cases c4 : 0 < (a0.size : Int)
    · rw [if_pos c4] at H
      have c4b0 : decide (0 < (a0.size : Int)) = true := decide_eq_true c4
      have c4b1 : decide (0 < a0.size) = true := decide_eq_true (by omega)
      clear c4
      by_cases c6 : (bt a0 0) = 47
      · rw [if_pos c6] at H
        have c6b0 : ((bt a0 0) == 47) = true := beq_iff_eq.mpr c6
        have c6b1 : ((bt a0 0) != 47) = false := bne_eq_false_iff_eq.mpr c6
        clear c6
        replace H := Option.bind_eq_some_iff.mp H
        obtain ⟨⟨t237, t238⟩, A70, H⟩ := H
        replace H : (some (t237, (t238 == 0), t238)) = some (r1, r2, r3) := H
        have A7 := Aside0.mk A70
        clear A70
        simp only [Option.some.injEq, Prod.mk.injEq] at H
        obtain ⟨rfl, rfl, rfl⟩ := H
        go_enter Tryd.func23, Tryd.ntmps23
        go_wp2_with (first | ((with_reducible refine gate_callee (f := 25) rfl ?_); refine goesL_ (some 10) rfl rfl Tryd.func25 (by kernel_rfl) rfl #[.string a0] rfl (by (try simp only [List.map_toArray, List.map_cons, List.map_nil]); first | done | rfl | (simp only [List.length_drop, List.length_take]; rfl)) ?_; (with_reducible refine (coppiceref12_Target.calls k a0 true _ A2.out).mono ?_); rintro e w' ⟨rfl, ⟨nd, rfl⟩⟩; refine ⟨_, rfl, ?_⟩; have p5 : 0 ≤ (0 : Int) := (by omega); have q5 : 0 < a0.size := (by have : (0 : Int) < (a0.size : Int) := of_decide_eq_true (by first | (with_reducible assumption) | assumption); omega); have hx5 : ∀ h : 0 < a0.size, ((a0[0]'h).toNat : Int) = bt a0 0 := bt_at a0 0; clear p5; have qi5 : (0 < (a0.size : Int)) = True := eq_true (of_decide_eq_true (by first | (with_reducible assumption) | assumption)); replace q5 := eq_true q5) | ((with_reducible refine gate_callee (f := 20) rfl ?_); refine goesL_ (some 17) rfl rfl Tryd.func20 (by kernel_rfl) rfl #[.string a0] rfl (by (try simp only [List.map_toArray, List.map_cons, List.map_nil]); first | done | rfl | (simp only [List.length_drop, List.length_take]; rfl)) ?_; (with_reducible refine (coppiceref12_Split.calls k a0 t237 t238 _ A7.out).mono ?_); rintro e w8 ⟨v239, rfl, ho0, hb⟩; refine ⟨_, rfl, ?_⟩; have n0_ := Aside0.mk (Kd.R_lower ho0 (below_size (by repeat (first | (with_reducible first | exact HB.out | apply below_alloc | apply pw_below_drewN | apply below_drew1) | exact HB.out)))); have n1_ := Aside0.mk (below_step (by repeat (first | (with_reducible first | exact HB.out | apply below_alloc | apply pw_below_drewN | apply below_drew1) | exact HB.out)) hb); clear HB; have HO240 := n0_; have HB := n1_; clear n0_ n1_; (try clear hb); (try clear hb2); (try clear hk); (try clear hi); (try clear ho0)))
        go_ret3
        exact ⟨_, by first | rfl | (simp [errW_none, errW_some] <;> rfl) | (simp [*, errW_none, errW_some] <;> rfl), by (with_reducible repeat (first | apply Kd.R_alloc | apply Kd.R_drewN | apply Kd.R_drew)); exact HO240.out, by repeat (first | (with_reducible first | exact HB.out | apply below_alloc | apply pw_below_drewN | apply below_drew1) | exact HB.out)⟩
      · rw [if_neg c6] at H
        have c6b0 : ((bt a0 0) == 47) = false := beq_eq_false_iff_ne.mpr c6
        have c6b1 : ((bt a0 0) != 47) = true := bne_iff_ne.mpr c6
        replace H := Option.bind_eq_some_iff.mp H
        obtain ⟨t241, A90, H⟩ := H
        replace H : (coppiceref12_Lead.l0 k t241 0) = some (r1, r2, r3) := H
        have A9 := Aside0.mk A90
        clear A90
        have H' := Aside0.mk H
        clear H
        go_enter Tryd.func23, Tryd.ntmps23
        go_wp2_with (first | ((with_reducible refine gate_callee (f := 25) rfl ?_); refine goesL_ (some 10) rfl rfl Tryd.func25 (by kernel_rfl) rfl #[.string a0] rfl (by (try simp only [List.map_toArray, List.map_cons, List.map_nil]); first | done | rfl | (simp only [List.length_drop, List.length_take]; rfl)) ?_; (with_reducible refine (coppiceref12_Target.calls k a0 true _ A2.out).mono ?_); rintro e w' ⟨rfl, ⟨nd, rfl⟩⟩; refine ⟨_, rfl, ?_⟩; have p5 : 0 ≤ (0 : Int) := (by omega); have q5 : 0 < a0.size := (by have : (0 : Int) < (a0.size : Int) := of_decide_eq_true (by first | (with_reducible assumption) | assumption); omega); have hx5 : ∀ h : 0 < a0.size, ((a0[0]'h).toNat : Int) = bt a0 0 := bt_at a0 0; clear p5; have qi5 : (0 < (a0.size : Int)) = True := eq_true (of_decide_eq_true (by first | (with_reducible assumption) | assumption)); replace q5 := eq_true q5) | ((with_reducible refine gate_callee (f := 39) rfl ?_); refine goesL_ (some 25) rfl rfl Tryd.func39 (by kernel_rfl) rfl #[.string a0] rfl (by (try simp only [List.map_toArray, List.map_cons, List.map_nil]); first | done | rfl | (simp only [List.length_drop, List.length_take]; rfl)) ?_; (with_reducible refine (coppiceref12_cut.calls k a0 t241 _ A9.out).mono ?_); rintro e w10 ⟨v242, rfl, ho0, hb⟩; refine ⟨_, rfl, ?_⟩; have n0_ := Aside0.mk (Kd.R_lower ho0 (below_size (by repeat (first | (with_reducible first | exact HB.out | apply below_alloc | apply pw_below_drewN | apply below_drew1) | exact HB.out)))); have n1_ := Aside0.mk (below_step (by repeat (first | (with_reducible first | exact HB.out | apply below_alloc | apply pw_below_drewN | apply below_drew1) | exact HB.out)) hb); clear HB; have HO243 := n0_; have HB := n1_; clear n0_ n1_; (try clear hb); (try clear hb2); (try clear hk); (try clear hi); (try clear ho0)))
        go_loopg [8] k (fun kq v8 w' => ∃ (x8_1 : Int), v8 = .int .i64 x8_1 ∧ Aside0 (coppiceref12_Lead.l0 kq t241 x8_1 = some (r1, r2, r3)) ∧ Aside0 (kq ≤ k) ∧ Aside0 (Kd.R Kd.string 9 w' w.heap.size (fun _ => True) v242 t241) ∧ Aside0 (Below w.heap.size w w'))
        case atStart => exact ⟨(0), (by first | rfl | (simp; done) | (simp [*]; done)), H', ⟨Nat.le_refl _⟩, ⟨by (with_reducible repeat (first | apply Kd.R_alloc | apply Kd.R_drewN | apply Kd.R_drew)); exact HO243.out⟩, ⟨by repeat (first | (with_reducible first | exact HB.out | apply below_alloc | apply pw_below_drewN | apply below_drew1) | exact HB.out)⟩⟩
        case round =>
          clear H'
          try clear c2
          try clear p2
          try clear c3
          try clear c4
          try clear c4b0
          try clear c4b1
          try clear p5
          try clear q5
          try clear hx5
          try clear qi5
          try clear c6
          try clear c6b0
          try clear c6b1
          try clear p5
          try clear q5
          obtain ⟨x8_1, rfl, HA, HK1, HO_7, HB⟩ := hrel
          cases gk with
          | zero => exact absurd HA.out (by simp [coppiceref12_Lead.l0])
          | succ k1 =>
            have H := HA.out
            clear HA
            simp only [coppiceref12_Lead.l0] at H
            by_cases c11 : x8_1 < (t241.length : Int)
            · rw [if_pos c11] at H
              have c11b0 : decide (x8_1 < (t241.length : Int)) = true := decide_eq_true c11
              clear c11
              by_cases c12 : 0 ≤ x8_1
              · rw [if_pos c12] at H
                have c12b0 : decide (0 ≤ x8_1) = true := decide_eq_true c12
                clear c12
                replace H := Option.bind_eq_some_iff.mp H
                obtain ⟨t245, A130, H⟩ := H
                replace H : (if t245 = true then (coppiceref12_Lead.l0 k1 t241 (wrap64 (x8_1 + 1))) else (if (rdOf ByteArray.empty t241 x8_1).toList = ([46, 46] : List UInt8) then (coppiceref12_Lead.l0 k1 t241 (wrap64 (x8_1 + 1))) else (some (([] : List ByteArray), false, 120)))) = some (r1, r2, r3) := H
                have A13 := Aside0.mk A130
                clear A130
                by_cases c14 : t245 = true
                · subst c14
                  have H1 : (coppiceref12_Lead.l0 k1 t241 (wrap64 (x8_1 + 1))) = some (r1, r2, r3) := by rw [if_pos rfl] at H; exact H
                  clear H
                  have H := H1
                  clear H1
                  have H' := Aside0.mk H
                  clear H
                  obtain ⟨Ao15, co15, eo15⟩ := Kd.R_slice HO_7.out
                  subst eo15
                  have p244 : 0 ≤ (x8_1 : Int) := of_decide_eq_true (by first | (with_reducible assumption) | assumption)
                  have q244 : x8_1 < (t241.length : Int) := of_decide_eq_true (by first | (with_reducible assumption) | assumption)
                  obtain ⟨ad244, e244, hx244_0⟩ := Kd.at_string (Kd.R_reads' HO_7.out).2.2 x8_1 p244 q244
                  cases e244
                  replace p244 := eq_true p244
                  replace q244 := eq_true q244
                  go_wp2_with (first | ((with_reducible refine gate_callee (f := 24) rfl ?_); refine goesL_ (some 36) rfl rfl Tryd.func24 (by kernel_rfl) rfl #[.string (rdOf ByteArray.empty t241 x8_1)] rfl (by (try simp only [List.map_toArray, List.map_cons, List.map_nil]); first | done | rfl | (simp only [List.length_drop, List.length_take]; rfl)) ?_; (with_reducible refine (coppiceref12_Name.calls k1 (rdOf ByteArray.empty t241 x8_1) true _ A13.out).mono ?_); rintro e w' ⟨rfl, ⟨nd, rfl⟩⟩; refine ⟨_, rfl, ?_⟩))
                  go_roundg k1
                  case measure => have := HK1.out; omega
                  case rel => exact ⟨(wrap64 (x8_1 + 1)), (by first | rfl | (simp; done) | (simp [*]; done)), H', ⟨by have := HK1.out; omega⟩, ⟨by (with_reducible repeat (first | apply Kd.R_alloc | apply Kd.R_drewN | apply Kd.R_drew)); exact HO_7.out⟩, ⟨by repeat (first | (with_reducible first | exact HB.out | apply below_alloc | apply pw_below_drewN | apply below_drew1) | exact HB.out)⟩⟩
                · replace c14 := Bool.eq_false_iff.mpr c14
                  subst c14
                  have H1 : (if (rdOf ByteArray.empty t241 x8_1).toList = ([46, 46] : List UInt8) then (coppiceref12_Lead.l0 k1 t241 (wrap64 (x8_1 + 1))) else (some (([] : List ByteArray), false, 120))) = some (r1, r2, r3) := by rw [if_neg (show ¬ (false = true) by decide)] at H; exact H
                  clear H
                  have H := H1
                  clear H1
                  by_cases c16 : (rdOf ByteArray.empty t241 x8_1).toList = ([46, 46] : List UInt8)
                  · rw [if_pos c16] at H
                    have c16b0 : ((rdOf ByteArray.empty t241 x8_1).toList == ([46, 46] : List UInt8)) = true := beq_iff_eq.mpr c16
                    have c16b1 : ((rdOf ByteArray.empty t241 x8_1).toList != ([46, 46] : List UInt8)) = false := bne_eq_false_iff_eq.mpr c16
                    clear c16
                    have H' := Aside0.mk H
                    clear H
                    obtain ⟨Ao17, co17, eo17⟩ := Kd.R_slice HO_7.out
                    subst eo17
                    have p244 : 0 ≤ (x8_1 : Int) := of_decide_eq_true (by first | (with_reducible assumption) | assumption)
                    have q244 : x8_1 < (t241.length : Int) := of_decide_eq_true (by first | (with_reducible assumption) | assumption)
                    obtain ⟨ad244, e244, hx244_0⟩ := Kd.at_string (Kd.R_reads' HO_7.out).2.2 x8_1 p244 q244
                    cases e244
                    replace p244 := eq_true p244
                    replace q244 := eq_true q244
                    go_wp2_with (first | ((with_reducible refine gate_callee (f := 24) rfl ?_); refine goesL_ (some 36) rfl rfl Tryd.func24 (by kernel_rfl) rfl #[.string (rdOf ByteArray.empty t241 x8_1)] rfl (by (try simp only [List.map_toArray, List.map_cons, List.map_nil]); first | done | rfl | (simp only [List.length_drop, List.length_take]; rfl)) ?_; (with_reducible refine (coppiceref12_Name.calls k1 (rdOf ByteArray.empty t241 x8_1) false _ A13.out).mono ?_); rintro e w' ⟨rfl, ⟨nd, rfl⟩⟩; refine ⟨_, rfl, ?_⟩; have p246 : 0 ≤ (x8_1 : Int) := of_decide_eq_true (by first | (with_reducible assumption) | assumption); have q246 : x8_1 < (t241.length : Int) := of_decide_eq_true (by first | (with_reducible assumption) | assumption); obtain ⟨ad246, e246, hx246_0⟩ := Kd.at_string (Kd.R_reads' HO_7.out).2.2 x8_1 p246 q246; obtain rfl : ad244 = ad246 := (by injection e246); replace p246 := eq_true p246; replace q246 := eq_true q246))
                    go_roundg k1
                    case measure => have := HK1.out; omega
                    case rel => exact ⟨(wrap64 (x8_1 + 1)), (by first | rfl | (simp; done) | (simp [*]; done)), H', ⟨by have := HK1.out; omega⟩, ⟨by (with_reducible repeat (first | apply Kd.R_alloc | apply Kd.R_drewN | apply Kd.R_drew)); exact HO_7.out⟩, ⟨by repeat (first | (with_reducible first | exact HB.out | apply below_alloc | apply pw_below_drewN | apply below_drew1) | exact HB.out)⟩⟩
                  · rw [if_neg c16] at H
                    have c16b0 : ((rdOf ByteArray.empty t241 x8_1).toList == ([46, 46] : List UInt8)) = false := beq_eq_false_iff_ne.mpr c16
                    have c16b1 : ((rdOf ByteArray.empty t241 x8_1).toList != ([46, 46] : List UInt8)) = true := bne_iff_ne.mpr c16
                    simp only [Option.some.injEq, Prod.mk.injEq] at H
                    obtain ⟨rfl, rfl, rfl⟩ := H
                    obtain ⟨Ao18, co18, eo18⟩ := Kd.R_slice HO_7.out
                    subst eo18
                    have p244 : 0 ≤ (x8_1 : Int) := of_decide_eq_true (by first | (with_reducible assumption) | assumption)
                    have q244 : x8_1 < (t241.length : Int) := of_decide_eq_true (by first | (with_reducible assumption) | assumption)
                    obtain ⟨ad244, e244, hx244_0⟩ := Kd.at_string (Kd.R_reads' HO_7.out).2.2 x8_1 p244 q244
                    cases e244
                    replace p244 := eq_true p244
                    replace q244 := eq_true q244
                    go_wp2_with (first | ((with_reducible refine gate_callee (f := 24) rfl ?_); refine goesL_ (some 36) rfl rfl Tryd.func24 (by kernel_rfl) rfl #[.string (rdOf ByteArray.empty t241 x8_1)] rfl (by (try simp only [List.map_toArray, List.map_cons, List.map_nil]); first | done | rfl | (simp only [List.length_drop, List.length_take]; rfl)) ?_; (with_reducible refine (coppiceref12_Name.calls k1 (rdOf ByteArray.empty t241 x8_1) false _ A13.out).mono ?_); rintro e w' ⟨rfl, ⟨nd, rfl⟩⟩; refine ⟨_, rfl, ?_⟩; have p246 : 0 ≤ (x8_1 : Int) := of_decide_eq_true (by first | (with_reducible assumption) | assumption); have q246 : x8_1 < (t241.length : Int) := of_decide_eq_true (by first | (with_reducible assumption) | assumption); obtain ⟨ad246, e246, hx246_0⟩ := Kd.at_string (Kd.R_reads' HO_7.out).2.2 x8_1 p246 q246; obtain rfl : ad244 = ad246 := (by injection e246); replace p246 := eq_true p246; replace q246 := eq_true q246))
                    go_ret3
                    exact ⟨_, by first | rfl | (simp [errW_none, errW_some] <;> rfl) | (simp [*, errW_none, errW_some] <;> rfl), by first | exact Kd.R_nil _ _ _ _ _ | exact Kd.N_nil _ _ _ _ _ | exact Kd.V_nil _ _ _ _ _ | exact Kd.Q_nil _ _ _ _ _ | exact Kd.S_nil _ _ _ _ _, by repeat (first | (with_reducible first | exact HB.out | apply below_alloc | apply pw_below_drewN | apply below_drew1) | exact HB.out)⟩
              · rw [if_neg c12] at H
                exact absurd H (by simp)
            · rw [if_neg c11] at H
              have c11b0 : decide (x8_1 < (t241.length : Int)) = false := decide_eq_false c11
              clear c11
              by_cases c19 : (t241.length : Int) > 32
              · rw [if_pos c19] at H
                have c19b0 : decide (32 < (t241.length : Int)) = true := decide_eq_true c19
                have c19b1 : decide (32 < t241.length) = true := decide_eq_true (by omega)
                clear c19
                simp only [Option.some.injEq, Prod.mk.injEq] at H
                obtain ⟨rfl, rfl, rfl⟩ := H
                obtain ⟨Ao20, co20, eo20⟩ := Kd.R_slice HO_7.out
                subst eo20
                go_wp2
                go_ret3
                exact ⟨_, by first | rfl | (simp [errW_none, errW_some] <;> rfl) | (simp [*, errW_none, errW_some] <;> rfl), by first | exact Kd.R_nil _ _ _ _ _ | exact Kd.N_nil _ _ _ _ _ | exact Kd.V_nil _ _ _ _ _ | exact Kd.Q_nil _ _ _ _ _ | exact Kd.S_nil _ _ _ _ _, by repeat (first | (with_reducible first | exact HB.out | apply below_alloc | apply pw_below_drewN | apply below_drew1) | exact HB.out)⟩
              · rw [if_neg c19] at H
                have c19b0 : decide (32 < (t241.length : Int)) = false := decide_eq_false c19
                have c19b1 : decide (32 < t241.length) = false := decide_eq_false (by omega)
                clear c19
                simp only [Option.some.injEq, Prod.mk.injEq] at H
                obtain ⟨rfl, rfl, rfl⟩ := H
                obtain ⟨Ao21, co21, eo21⟩ := Kd.R_slice HO_7.out
                subst eo21
                go_wp2
                go_ret3
                exact ⟨_, by first | rfl | (simp [errW_none, errW_some] <;> rfl) | (simp [*, errW_none, errW_some] <;> rfl), by (with_reducible repeat (first | apply Kd.R_alloc | apply Kd.R_drewN | apply Kd.R_drew)); exact HO_7.out, by repeat (first | (with_reducible first | exact HB.out | apply below_alloc | apply pw_below_drewN | apply below_drew1) | exact HB.out)⟩
    · rw [if_neg c4] at H
      exact absurd H (by simp)
  · replace c3 := Bool.eq_false_iff.mpr c3
    subst c3
    have H1 : (some (([] : List ByteArray), false, 120)) = some (r1, r2, r3) := by rw [if_neg (show ¬ (false = true) by decide)] at H; exact H
    clear H
    have H := H1
    clear H1
    simp only [Option.some.injEq, Prod.mk.injEq] at H
    obtain ⟨rfl, rfl, rfl⟩ := H
    go_enter Tryd.func23, Tryd.ntmps23
    go_wp2_with (first | ((with_reducible refine gate_callee (f := 25) rfl ?_); refine goesL_ (some 10) rfl rfl Tryd.func25 (by kernel_rfl) rfl #[.string a0] rfl (by (try simp only [List.map_toArray, List.map_cons, List.map_nil]); first | done | rfl | (simp only [List.length_drop, List.length_take]; rfl)) ?_; (with_reducible refine (coppiceref12_Target.calls k a0 false _ A2.out).mono ?_); rintro e w' ⟨rfl, ⟨nd, rfl⟩⟩; refine ⟨_, rfl, ?_⟩))
    go_ret3
    exact ⟨_, by first | rfl | (simp [errW_none, errW_some] <;> rfl) | (simp [*, errW_none, errW_some] <;> rfl), by first | exact Kd.R_nil _ _ _ _ _ | exact Kd.N_nil _ _ _ _ _ | exact Kd.V_nil _ _ _ _ _ | exact Kd.Q_nil _ _ _ _ _ | exact Kd.S_nil _ _ _ _ _, by repeat (first | (with_reducible first | exact HB.out | apply below_alloc | apply pw_below_drewN | apply below_drew1) | exact HB.out)⟩

end Go.Proofs.YtkfmilfmpmmpkaaDoor.PB
