-- WRITTEN BY a program of this session (pp.sh)
import Derived.Test.YtcocddpknkklhaaPAx0
import Derived.Test.YtcocddpknkklhaaPAx3
import Derived.Test.YtcocddpknkklhaaPAx4
import Derived.Test.YtcocddpknkklhaaPAx5
namespace Go.Proofs.Ytcocddpknkklhaa.PA
open Go.RowKit Go.Proofs.YtcocddpknkklhaaW.PrintWords Go.Proofs.YtcocddpknkklhaaW.PrintLast Go.Proofs.YtcocddpknkklhaaW.PrintMore Go.Proofs.Ytcocddpknkklhaa.Plain
attribute [local go_sem] max2_int min2_int max_two min_two max_three min_three max_four min_four binOp_leq_s binOp_gtr_s binOp_geq_s lit_byte   -- for this text's walks alone
set_option linter.unusedVariables false
set_option linter.unusedSimpArgs false

/-! ### delta_Turn: function 22, by hand -/
/-- What undoes a change. -/
def delta_Turn.turn (x : S61) : S61 := ⟨x.f0, x.f2, x.f1, x.f4, x.f3⟩
/-- delta.Turn. -/
def delta_Turn.f (l0 : List S61) : Option (List S61 × Int) := if l0.length ≤ 1000000000 then some (if delta_Check.all l0 = true then (l0.map delta_Turn.turn, 0) else ([], 21)) else none
theorem delta_Turn.step (l0 : List S61) (k : Nat) (hk : k < l0.length) : ((l0.take k).map delta_Turn.turn ++ l0.drop k).set k (delta_Turn.turn (rd_T61 ((l0.take k).map delta_Turn.turn ++ l0.drop k) (k : Int))) = (l0.take (k + 1)).map delta_Turn.turn ++ l0.drop (k + 1) := by
  have h1 : ((l0.take k).map delta_Turn.turn).length = k := by simp; omega
  have h2 : l0.drop k = l0[k] :: l0.drop (k + 1) := List.drop_eq_getElem_cons hk
  have h3 : rd_T61 ((l0.take k).map delta_Turn.turn ++ l0.drop k) (k : Int) = l0[k] := by
    unfold rd_T61
    rw [Int.toNat_natCast, List.getD_eq_getElem?_getD, List.getElem?_append_right (by omega), h1, Nat.sub_self, h2]
    rfl
  rw [h3, List.set_append_right _ _ (by omega), h1, Nat.sub_self, h2, List.set_cons_zero, List.take_succ_eq_append_getElem hk, List.map_append, List.append_assoc]
  rfl
set_option maxHeartbeats 8000000 in
set_option maxRecDepth 100000 in
theorem delta_Turn.calls (A0 : Option Addr) (c0 : Nat) (l0 : List S61) (r1 : List S61) (r2 : Int) (w : World) (hr0 : Kd.C k61 w A0 l0.length l0) (hc0 : l0.length ≤ c0) (h : delta_Turn.f l0 = some (r1, r2)) :
    Calls Try.prog 22 #[.slice A0 l0.length c0] w fun e w' => ∃ v0_ : Value, e = .returned (.tuple #[v0_, .int .i64 r2]) ∧ Kd.R k61 61 w' w.heap.size (fun _ => True) v0_ r1 ∧ Below w.heap.size w w' := by
  unfold delta_Turn.f at h
  by_cases hl : l0.length ≤ 1000000000
  · rw [if_pos hl] at h
    have hrr := Option.some.inj h
    clear h
    obtain ⟨q, hq⟩ : ∃ q : Bool, delta_Check.all l0 = q := ⟨_, rfl⟩
    rw [hq] at hrr
    have HCK := Aside0.mk (delta_Check.all_calls A0 c0 l0 w hr0 hc0 hl q hq)
    have HR0 := Aside0.mk hr0
    have HC0 := Aside0.mk hc0
    have HL := Aside0.mk hl
    have HCL := Aside0.mk (show slices_Clone_Change.f l0 = some l0 from if_pos (by omega))
    clear hr0 hc0 hl hq
    cases q with
    | false =>
      obtain ⟨rfl, rfl⟩ := Prod.mk.inj hrr
      clear hrr
      go_enter Try.func22, Try.ntmps22
      go_wp2_with (go_at_call 19; (with_reducible refine HCK.out.mono ?_); rintro e w1 ⟨rfl, hb⟩; have HB1 := Aside0.mk hb; clear hb)
      go_ret2
      exact ⟨_, rfl, Kd.R_nil _ _ _ _ _, HB1.out⟩
    | true =>
      obtain ⟨rfl, rfl⟩ := Prod.mk.inj hrr
      clear hrr
      go_enter Try.func22, Try.ntmps22
      go_wp2_with (first
        | (go_at_call 19; (with_reducible refine HCK.out.mono ?_); rintro e w1 ⟨rfl, hb⟩; have HB1 := Aside0.mk hb; have HR1 := Aside0.mk (Kd.C_below HR0.out hb); clear hb)
        | (go_at_call 48; (with_reducible refine (slices_Clone_Change.calls A0 c0 l0 l0 _ HR1.out HC0.out HCL.out).mono ?_); rintro e w2 ⟨v, rfl, hR, hb⟩; obtain ⟨A1, c1, rfl⟩ := Kd.R_slice hR; have HR := Aside0.mk (Kd.R_lower hR HB1.out.size); have HB := Aside0.mk (below_step HB1.out hb); clear hR hb))
      go_loopg [17] (l0.length + 1) (fun kq v17 w' => ∃ (k : Nat) (l : List S61), v17 = .int .i64 (k : Int) ∧ Aside0 (k ≤ l0.length ∧ l0.length < k + kq ∧ l.length = l0.length) ∧ Aside0 (l = (l0.take k).map delta_Turn.turn ++ l0.drop k) ∧ Aside0 (Kd.R k61 61 w' w.heap.size (fun _ => True) (.slice A1 l0.length c1) l) ∧ Aside0 (Below w.heap.size w w'))
      case atStart => exact ⟨0, l0, rfl, ⟨⟨Nat.zero_le _, by omega, rfl⟩⟩, ⟨by simp⟩, HR, HB⟩
      case round =>
        clear HR HB
        obtain ⟨k, l, rfl, HJ, HE, HR, HB⟩ := hrel
        cases gk with
        | zero => exact absurd HJ.out (by omega)
        | succ k1 =>
        by_cases hk : k < l0.length
        rotate_left
        · have hkk : k = l0.length := by have := HJ.out; omega
          have HEE : Aside0 (l = l0.map delta_Turn.turn) := ⟨by rw [HE.out, hkk, List.take_length, List.drop_length, List.append_nil]⟩
          have d0 : decide ((k : Int) < (l0.length : Int)) = false := decide_eq_false (by omega)
          clear hkk
          go_wp2
          go_ret2
          exact ⟨_, rfl, HEE.out ▸ HR.out, HB.out⟩
        obtain ⟨g, cap, hform⟩ : ∃ g cap, (Value.slice A1 l0.length c1) = .slice (some ⟨g, 0, none⟩) l0.length cap := by
          obtain ⟨g, cap, h⟩ := Kd.R_form HR.out (by have := HJ.out; omega)
          exact ⟨g, cap, by rw [HJ.out.2.2] at h; exact h.1⟩
        injection hform with hf1 _ hf3
        subst hf1
        subst hf3
        have hC := (Kd.R_reads' HR.out).2.2
        have hll : l.length = l0.length := HJ.out.2.2
        obtain ⟨ad, e, hx0, hx1, hx2, hx3, hx4⟩ := at_T61 hC (k : Int) (by omega) (by omega)
        cases e
        clear hC
        have HNX : Aside0 (l.set k (delta_Turn.turn (rd_T61 l (k : Int))) = (l0.take (k + 1)).map delta_Turn.turn ++ l0.drop (k + 1)) := ⟨by rw [HE.out]; exact delta_Turn.step l0 k hk⟩
        rw [Int.toNat_natCast] at hx0 hx1 hx2 hx3 hx4
        simp only [delta_rises.addr_change] at hx0 hx1 hx2 hx3 hx4
        generalize rd_T61 l (k : Int) = z at *
        obtain ⟨g2, cap2, hfm, -, -, cells, hblk⟩ := Kd.R_form HR.out (by omega)
        have hf6 : g2 = g := by
          injection hfm with h1 _ _
          injection h1 with h2
          injection h2 with h3
          exact h3.symm
        rw [hf6] at hblk
        clear hf6 hfm
        have HZ := Aside0.mk (show (wr.drew.cell? ⟨g, k * 5, none⟩ = some (.string z.f0) ∧ wr.drew.cell? ⟨g, k * 5 + 1, none⟩ = some (.bool z.f1) ∧ wr.drew.cell? ⟨g, k * 5 + 2, none⟩ = some (.bool z.f2) ∧ wr.drew.cell? ⟨g, k * 5 + 3, none⟩ = some (.string z.f3) ∧ wr.drew.cell? ⟨g, k * 5 + 4, none⟩ = some (.string z.f4)) ∧ ∀ j, wr.drew.frozen? ⟨g, j, none⟩ = false from ⟨⟨hx0, hx1, hx2, hx3, hx4⟩, fun j => blk_frozen hblk j⟩)
        have HGE := Aside0.mk (show w.heap.size ≤ g from Kd.R_base HR.out g rfl)
        have HRD := Aside0.mk (show Kd.R k61 61 wr.drew w.heap.size (fun _ => True) (.slice (some ⟨g, 0, none⟩) l0.length c1) l from Kd.R_below HR.out (below_drew (Below.refl _ _)))
        have HBD := Aside0.mk (show Below w.heap.size w wr.drew from HB.out.drew)
        clear hblk HR HB hll
        have HR := HRD
        have HB := HBD
        clear HRD HBD
        have hz1 := hx1
        have hz2 := hx2
        have hz3 := hx3
        have hz4 := hx4
        clear hx0 hx1 hx2 hx3 hx4
        have b1 : (0 : Int) ≤ (k : Int) := by omega
        have b2 : (k : Int) < (l0.length : Int) := by omega
        have d0 : decide ((k : Int) < (l0.length : Int)) = true := decide_eq_true b2
        have d4 : IntKind.i64.wrap ((k : Int) + 1) = ((k + 1 : Nat) : Int) := by have := HL.out; rw [i64_w]; unfold wrap64; omega
        go_wp2
        refine start_ (n := 32) (S := fun w' => w'.cell? ⟨g, k * 5 + 1, none⟩ = some (.bool z.f1) ∧ w'.cell? ⟨g, k * 5 + 2, none⟩ = some (.bool z.f2) ∧ w'.cell? ⟨g, k * 5 + 3, none⟩ = some (.string z.f3) ∧ w'.cell? ⟨g, k * 5 + 4, none⟩ = some (.string z.f4)) (ds := [22, 25, 28, 31]) #[false, false, false, false, false, false, false, false, false, false, false, false, false, false, false, false, false, false, false, false, false, false, false, false, false, false, false, false, false, false, false, false] (by kernel_rfl) rfl rfl ⟨hz1, hz2, hz3, hz4⟩ (fun hHeld => ?_)
        generalize wr.drew = wd at hHeld HZ HR HB ⊢
        have hfz := HZ.out.2
        have hw1 : wd.cell? ⟨g, k * 5 + 1, none⟩ = some (.bool z.f1) := HZ.out.1.2.1
        have hw2 : wd.cell? ⟨g, k * 5 + 2, none⟩ = some (.bool z.f2) := HZ.out.1.2.2.1
        have hw3 : wd.cell? ⟨g, k * 5 + 3, none⟩ = some (.string z.f3) := HZ.out.1.2.2.2.1
        have hw4 : wd.cell? ⟨g, k * 5 + 4, none⟩ = some (.string z.f4) := HZ.out.1.2.2.2.2
        have hf1 : wd.frozen? ⟨g, k * 5 + 1, none⟩ = false := hfz _
        have hf2 : wd.frozen? ⟨g, k * 5 + 2, none⟩ = false := hfz _
        have hf3 : wd.frozen? ⟨g, k * 5 + 3, none⟩ = false := hfz _
        have hf4 : wd.frozen? ⟨g, k * 5 + 4, none⟩ = false := hfz _
        clear hfz
        refine pure_ (i := 0) (N := some 23) (v := ?_) (a' := ?_) #[true, false, false, false, false, false, false, false, false, false, false, false, false, false, false, false, false, false, false, false, false, false, false, false, false, false, false, false, false, false, false, false] rfl rfl (by kernel_rfl) (fun _ _ _ h => h) (Or.inl ⟨by rfl, ?_⟩) ?_ ?_
        rotate_left
        · intro w'
          go_simp
          with_reducible rfl
        rotate_left
        · simp only [Act.put, List.setIfInBounds_toArray, List.set_cons_zero, List.set_cons_succ, i64_w, i32_w]
          rfl
        refine pure_ (i := 1) (N := some 24) (v := ?_) (a' := ?_) #[true, true, false, false, false, false, false, false, false, false, false, false, false, false, false, false, false, false, false, false, false, false, false, false, false, false, false, false, false, false, false, false] rfl rfl (by kernel_rfl) (fun _ _ _ h => h) (Or.inl ⟨by rfl, ?_⟩) ?_ ?_
        rotate_left
        · intro w'
          go_simp
          with_reducible rfl
        rotate_left
        · simp only [Act.put, List.setIfInBounds_toArray, List.set_cons_zero, List.set_cons_succ, i64_w, i32_w]
          rfl
        refine pure_ (i := 2) (N := some 25) (v := ?_) (a' := ?_) #[true, true, true, false, false, false, false, false, false, false, false, false, false, false, false, false, false, false, false, false, false, false, false, false, false, false, false, false, false, false, false, false] rfl rfl (by kernel_rfl) (fun _ _ _ h => h) (Or.inl ⟨by rfl, ?_⟩) ?_ ?_
        rotate_left
        · intro w'
          go_simp
          with_reducible rfl
        rotate_left
        · simp only [Act.put, List.setIfInBounds_toArray, List.set_cons_zero, List.set_cons_succ, i64_w, i32_w]
          rfl
        refine pure_ (i := 3) (N := some 26) (v := ?_) (a' := ?_) #[true, true, true, true, false, false, false, false, false, false, false, false, false, false, false, false, false, false, false, false, false, false, false, false, false, false, false, false, false, false, false, false] rfl rfl (by kernel_rfl) (fun _ _ _ h => h) (Or.inl ⟨by rfl, ?_⟩) ?_ ?_
        rotate_left
        · intro w'
          go_simp
          with_reducible rfl
        rotate_left
        · simp only [Act.put, List.setIfInBounds_toArray, List.set_cons_zero, List.set_cons_succ, i64_w, i32_w]
          rfl
        refine pure_ (i := 4) (N := some 27) (v := ?_) (a' := ?_) #[true, true, true, true, true, false, false, false, false, false, false, false, false, false, false, false, false, false, false, false, false, false, false, false, false, false, false, false, false, false, false, false] rfl rfl (by kernel_rfl) (fun _ _ _ h => h) (Or.inl ⟨by rfl, ?_⟩) ?_ ?_
        rotate_left
        · intro w'
          go_simp
          with_reducible rfl
        rotate_left
        · simp only [Act.put, List.setIfInBounds_toArray, List.set_cons_zero, List.set_cons_succ, i64_w, i32_w]
          rfl
        refine pure_ (i := 5) (N := some 28) (v := ?_) (a' := ?_) #[true, true, true, true, true, true, false, false, false, false, false, false, false, false, false, false, false, false, false, false, false, false, false, false, false, false, false, false, false, false, false, false] rfl rfl (by kernel_rfl) (fun _ _ _ h => h) (Or.inl ⟨by rfl, ?_⟩) ?_ ?_
        rotate_left
        · intro w'
          go_simp
          with_reducible rfl
        rotate_left
        · simp only [Act.put, List.setIfInBounds_toArray, List.set_cons_zero, List.set_cons_succ, i64_w, i32_w]
          rfl
        refine pure_ (i := 6) (N := some 29) (v := ?_) (a' := ?_) #[true, true, true, true, true, true, true, false, false, false, false, false, false, false, false, false, false, false, false, false, false, false, false, false, false, false, false, false, false, false, false, false] rfl rfl (by kernel_rfl) (fun _ _ _ h => h) (Or.inl ⟨by rfl, ?_⟩) ?_ ?_
        rotate_left
        · intro w'
          go_simp
          with_reducible rfl
        rotate_left
        · simp only [Act.put, List.setIfInBounds_toArray, List.set_cons_zero, List.set_cons_succ, i64_w, i32_w]
          rfl
        refine pure_ (i := 8) (N := some 31) (v := ?_) (a' := ?_) #[true, true, true, true, true, true, true, false, true, false, false, false, false, false, false, false, false, false, false, false, false, false, false, false, false, false, false, false, false, false, false, false] rfl rfl (by kernel_rfl) (fun _ _ _ h => h) (Or.inl ⟨by rfl, ?_⟩) ?_ ?_
        rotate_left
        · intro w'
          go_simp
          with_reducible rfl
        rotate_left
        · simp only [Act.put, List.setIfInBounds_toArray, List.set_cons_zero, List.set_cons_succ, i64_w, i32_w]
          rfl
        refine pure_ (i := 9) (N := some 32) (v := ?_) (a' := ?_) #[true, true, true, true, true, true, true, false, true, true, false, false, false, false, false, false, false, false, false, false, false, false, false, false, false, false, false, false, false, false, false, false] rfl rfl (by kernel_rfl) (fun _ _ _ h => h) (Or.inl ⟨by rfl, ?_⟩) ?_ ?_
        rotate_left
        · intro w'
          go_simp
          with_reducible rfl
        rotate_left
        · simp only [Act.put, List.setIfInBounds_toArray, List.set_cons_zero, List.set_cons_succ, i64_w, i32_w]
          rfl
        refine pure_ (i := 10) (N := some 33) (v := ?_) (a' := ?_) #[true, true, true, true, true, true, true, false, true, true, true, false, false, false, false, false, false, false, false, false, false, false, false, false, false, false, false, false, false, false, false, false] rfl rfl (by kernel_rfl) (fun _ _ _ h => h) (Or.inl ⟨by rfl, ?_⟩) ?_ ?_
        rotate_left
        · intro w'
          go_simp
          with_reducible rfl
        rotate_left
        · simp only [Act.put, List.setIfInBounds_toArray, List.set_cons_zero, List.set_cons_succ, i64_w, i32_w]
          rfl
        refine pure_ (i := 12) (N := some 35) (v := ?_) (a' := ?_) #[true, true, true, true, true, true, true, false, true, true, true, false, true, false, false, false, false, false, false, false, false, false, false, false, false, false, false, false, false, false, false, false] rfl rfl (by kernel_rfl) (fun _ _ _ h => h) (Or.inl ⟨by rfl, ?_⟩) ?_ ?_
        rotate_left
        · intro w'
          go_simp
          with_reducible rfl
        rotate_left
        · simp only [Act.put, List.setIfInBounds_toArray, List.set_cons_zero, List.set_cons_succ, i64_w, i32_w]
          rfl
        refine pure_ (i := 13) (N := some 36) (v := ?_) (a' := ?_) #[true, true, true, true, true, true, true, false, true, true, true, false, true, true, false, false, false, false, false, false, false, false, false, false, false, false, false, false, false, false, false, false] rfl rfl (by kernel_rfl) (fun _ _ _ h => h) (Or.inl ⟨by rfl, ?_⟩) ?_ ?_
        rotate_left
        · intro w'
          go_simp
          with_reducible rfl
        rotate_left
        · simp only [Act.put, List.setIfInBounds_toArray, List.set_cons_zero, List.set_cons_succ, i64_w, i32_w]
          rfl
        refine pure_ (i := 14) (N := some 37) (v := ?_) (a' := ?_) #[true, true, true, true, true, true, true, false, true, true, true, false, true, true, true, false, false, false, false, false, false, false, false, false, false, false, false, false, false, false, false, false] rfl rfl (by kernel_rfl) (fun _ _ _ h => h) (Or.inl ⟨by rfl, ?_⟩) ?_ ?_
        rotate_left
        · intro w'
          go_simp
          with_reducible rfl
        rotate_left
        · simp only [Act.put, List.setIfInBounds_toArray, List.set_cons_zero, List.set_cons_succ, i64_w, i32_w]
          rfl
        refine pure_ (i := 16) (N := some 39) (v := ?_) (a' := ?_) #[true, true, true, true, true, true, true, false, true, true, true, false, true, true, true, false, true, false, false, false, false, false, false, false, false, false, false, false, false, false, false, false] rfl rfl (by kernel_rfl) (fun _ _ _ h => h) (Or.inl ⟨by rfl, ?_⟩) ?_ ?_
        rotate_left
        · intro w'
          go_simp
          with_reducible rfl
        rotate_left
        · simp only [Act.put, List.setIfInBounds_toArray, List.set_cons_zero, List.set_cons_succ, i64_w, i32_w]
          rfl
        refine pure_ (i := 17) (N := some 40) (v := ?_) (a' := ?_) #[true, true, true, true, true, true, true, false, true, true, true, false, true, true, true, false, true, true, false, false, false, false, false, false, false, false, false, false, false, false, false, false] rfl rfl (by kernel_rfl) (fun _ _ _ h => h) (Or.inl ⟨by rfl, ?_⟩) ?_ ?_
        rotate_left
        · intro w'
          go_simp
          with_reducible rfl
        rotate_left
        · simp only [Act.put, List.setIfInBounds_toArray, List.set_cons_zero, List.set_cons_succ, i64_w, i32_w]
          rfl
        refine pure_ (i := 18) (N := some 41) (v := ?_) (a' := ?_) #[true, true, true, true, true, true, true, false, true, true, true, false, true, true, true, false, true, true, true, false, false, false, false, false, false, false, false, false, false, false, false, false] rfl rfl (by kernel_rfl) (fun _ _ _ h => h) (Or.inl ⟨by rfl, ?_⟩) ?_ ?_
        rotate_left
        · intro w'
          go_simp
          with_reducible rfl
        rotate_left
        · simp only [Act.put, List.setIfInBounds_toArray, List.set_cons_zero, List.set_cons_succ, i64_w, i32_w]
          rfl
        refine take_ (i := 7) (N := some 30) (v := ?_) (a' := ?_) #[true, true, true, true, true, true, true, true, true, true, true, false, true, true, true, false, true, true, true, false, false, false, false, false, false, false, false, false, false, false, false, false] rfl rfl (by kernel_rfl) (fun _ _ _ h => h) (Or.inl ⟨by rfl, ?_⟩) hHeld ?_ ?_
        rotate_left
        · rintro w' ⟨s0, s1, s2, s3⟩
          go_simp
          with_reducible rfl
        rotate_left
        · simp only [Act.put, List.setIfInBounds_toArray, List.set_cons_zero, List.set_cons_succ, i64_w, i32_w]
          rfl
        refine take_ (i := 11) (N := some 34) (v := ?_) (a' := ?_) #[true, true, true, true, true, true, true, true, true, true, true, true, true, true, true, false, true, true, true, false, false, false, false, false, false, false, false, false, false, false, false, false] rfl rfl (by kernel_rfl) (fun _ _ _ h => h) (Or.inl ⟨by rfl, ?_⟩) hHeld ?_ ?_
        rotate_left
        · rintro w' ⟨s0, s1, s2, s3⟩
          go_simp
          with_reducible rfl
        rotate_left
        · simp only [Act.put, List.setIfInBounds_toArray, List.set_cons_zero, List.set_cons_succ, i64_w, i32_w]
          rfl
        refine take_ (i := 15) (N := some 38) (v := ?_) (a' := ?_) #[true, true, true, true, true, true, true, true, true, true, true, true, true, true, true, true, true, true, true, false, false, false, false, false, false, false, false, false, false, false, false, false] rfl rfl (by kernel_rfl) (fun _ _ _ h => h) (Or.inl ⟨by rfl, ?_⟩) hHeld ?_ ?_
        rotate_left
        · rintro w' ⟨s0, s1, s2, s3⟩
          go_simp
          with_reducible rfl
        rotate_left
        · simp only [Act.put, List.setIfInBounds_toArray, List.set_cons_zero, List.set_cons_succ, i64_w, i32_w]
          rfl
        refine take_ (i := 19) (N := some 42) (v := ?_) (a' := ?_) #[true, true, true, true, true, true, true, true, true, true, true, true, true, true, true, true, true, true, true, true, false, false, false, false, false, false, false, false, false, false, false, false] rfl rfl (by kernel_rfl) (fun _ _ _ h => h) (Or.inl ⟨by rfl, ?_⟩) hHeld ?_ ?_
        rotate_left
        · rintro w' ⟨s0, s1, s2, s3⟩
          go_simp
          with_reducible rfl
        rotate_left
        · simp only [Act.put, List.setIfInBounds_toArray, List.set_cons_zero, List.set_cons_succ, i64_w, i32_w]
          rfl
        refine pure_ (i := 20) (N := some 43) (v := ?_) (a' := ?_) #[true, true, true, true, true, true, true, true, true, true, true, true, true, true, true, true, true, true, true, true, true, false, false, false, false, false, false, false, false, false, false, false] rfl rfl (by kernel_rfl) (fun _ _ _ h => h) (Or.inl ⟨by rfl, ?_⟩) ?_ ?_
        rotate_left
        · intro w'
          go_simp
          with_reducible rfl
        rotate_left
        · simp only [Act.put, List.setIfInBounds_toArray, List.set_cons_zero, List.set_cons_succ, i64_w, i32_w]
          rfl
        refine pure_ (i := 21) (N := some 44) (v := ?_) (a' := ?_) #[true, true, true, true, true, true, true, true, true, true, true, true, true, true, true, true, true, true, true, true, true, true, false, false, false, false, false, false, false, false, false, false] rfl rfl (by kernel_rfl) (fun _ _ _ h => h) (Or.inl ⟨by rfl, ?_⟩) ?_ ?_
        rotate_left
        · intro w'
          go_simp
          with_reducible rfl
        rotate_left
        · simp only [Act.put, List.setIfInBounds_toArray, List.set_cons_zero, List.set_cons_succ, i64_w, i32_w]
          rfl
        refine last_ (i := 22) (N := none) #[true, true, true, true, true, true, true, true, true, true, true, true, true, true, true, true, true, true, true, true, true, true, true, false, false, false, false, false, false, false, false, false] rfl rfl (by kernel_rfl) (by decide) (fun K hK => ?_)
        refine skip_ (w1 := ?_) (by rfl) rfl ?_ ?_
        rotate_left
        · go_simp
          rfl
        refine hK.out _ _ ?_
        clear hK K
        refine pure_ (i := 23) (N := some 45) (v := ?_) (a' := ?_) #[true, true, true, true, true, true, true, true, true, true, true, true, true, true, true, true, true, true, true, true, true, true, true, true, false, false, false, false, false, false, false, false] rfl rfl (by kernel_rfl) (fun _ _ _ h => h) (Or.inl ⟨by rfl, ?_⟩) ?_ ?_
        rotate_left
        · intro w'
          go_simp
          with_reducible rfl
        rotate_left
        · simp only [Act.put, List.setIfInBounds_toArray, List.set_cons_zero, List.set_cons_succ, i64_w, i32_w]
          rfl
        refine pure_ (i := 24) (N := some 46) (v := ?_) (a' := ?_) #[true, true, true, true, true, true, true, true, true, true, true, true, true, true, true, true, true, true, true, true, true, true, true, true, true, false, false, false, false, false, false, false] rfl rfl (by kernel_rfl) (fun _ _ _ h => h) (Or.inl ⟨by rfl, ?_⟩) ?_ ?_
        rotate_left
        · intro w'
          go_simp
          with_reducible rfl
        rotate_left
        · simp only [Act.put, List.setIfInBounds_toArray, List.set_cons_zero, List.set_cons_succ, i64_w, i32_w]
          rfl
        refine last_ (i := 25) (N := none) #[true, true, true, true, true, true, true, true, true, true, true, true, true, true, true, true, true, true, true, true, true, true, true, true, true, true, false, false, false, false, false, false] rfl rfl (by kernel_rfl) (by decide) (fun K hK => ?_)
        refine skip_ (w1 := ?_) (by rfl) rfl ?_ ?_
        rotate_left
        · go_simp
          rfl
        refine hK.out _ _ ?_
        clear hK K
        refine pure_ (i := 26) (N := some 47) (v := ?_) (a' := ?_) #[true, true, true, true, true, true, true, true, true, true, true, true, true, true, true, true, true, true, true, true, true, true, true, true, true, true, true, false, false, false, false, false] rfl rfl (by kernel_rfl) (fun _ _ _ h => h) (Or.inl ⟨by rfl, ?_⟩) ?_ ?_
        rotate_left
        · intro w'
          go_simp
          with_reducible rfl
        rotate_left
        · simp only [Act.put, List.setIfInBounds_toArray, List.set_cons_zero, List.set_cons_succ, i64_w, i32_w]
          rfl
        refine pure_ (i := 27) (N := some 48) (v := ?_) (a' := ?_) #[true, true, true, true, true, true, true, true, true, true, true, true, true, true, true, true, true, true, true, true, true, true, true, true, true, true, true, true, false, false, false, false] rfl rfl (by kernel_rfl) (fun _ _ _ h => h) (Or.inl ⟨by rfl, ?_⟩) ?_ ?_
        rotate_left
        · intro w'
          go_simp
          with_reducible rfl
        rotate_left
        · simp only [Act.put, List.setIfInBounds_toArray, List.set_cons_zero, List.set_cons_succ, i64_w, i32_w]
          rfl
        refine last_ (i := 28) (N := none) #[true, true, true, true, true, true, true, true, true, true, true, true, true, true, true, true, true, true, true, true, true, true, true, true, true, true, true, true, true, false, false, false] rfl rfl (by kernel_rfl) (by decide) (fun K hK => ?_)
        refine skip_ (w1 := ?_) (by rfl) rfl ?_ ?_
        rotate_left
        · go_simp
          rfl
        refine hK.out _ _ ?_
        clear hK K
        refine pure_ (i := 29) (N := some 49) (v := ?_) (a' := ?_) #[true, true, true, true, true, true, true, true, true, true, true, true, true, true, true, true, true, true, true, true, true, true, true, true, true, true, true, true, true, true, false, false] rfl rfl (by kernel_rfl) (fun _ _ _ h => h) (Or.inl ⟨by rfl, ?_⟩) ?_ ?_
        rotate_left
        · intro w'
          go_simp
          with_reducible rfl
        rotate_left
        · simp only [Act.put, List.setIfInBounds_toArray, List.set_cons_zero, List.set_cons_succ, i64_w, i32_w]
          rfl
        refine pure_ (i := 30) (N := some 50) (v := ?_) (a' := ?_) #[true, true, true, true, true, true, true, true, true, true, true, true, true, true, true, true, true, true, true, true, true, true, true, true, true, true, true, true, true, true, true, false] rfl rfl (by kernel_rfl) (fun _ _ _ h => h) (Or.inl ⟨by rfl, ?_⟩) ?_ ?_
        rotate_left
        · intro w'
          go_simp
          with_reducible rfl
        rotate_left
        · simp only [Act.put, List.setIfInBounds_toArray, List.set_cons_zero, List.set_cons_succ, i64_w, i32_w]
          rfl
        refine last_ (i := 31) (N := none) #[true, true, true, true, true, true, true, true, true, true, true, true, true, true, true, true, true, true, true, true, true, true, true, true, true, true, true, true, true, true, true, true] rfl rfl (by kernel_rfl) (by decide) (fun K hK => ?_)
        refine skip_ (w1 := ?_) (by rfl) rfl ?_ ?_
        rotate_left
        · go_simp
          rfl
        refine hK.out _ _ ?_
        clear hK K
        refine done_ (by kernel_rfl) ?_
        have hsg := Kd.R_seg (okp := fun _ => False) HR.out (k : Int) b1 b2 (c := [.string z.f0, .bool z.f1, .bool z.f2, .string z.f3, .string z.f4]) (seg := [.bool z.f2, .bool z.f1, .string z.f4, .string z.f3]) (j := 1) rfl (by intro i u hi; have hz := HZ.out.1; match i, hi with | 0, rfl => exact hz.1 | 1, rfl => exact hz.2.1 | 2, rfl => exact hz.2.2.1 | 3, rfl => exact hz.2.2.2.1 | 4, rfl => exact hz.2.2.2.2) (show 1 + 4 ≤ 5 by omega) (x' := delta_Turn.turn z) (k61_mkM _ _ _ (delta_Turn.turn z)) (fun _ h => False.elim h)
        have HSG := Aside0.mk (show Kd.R k61 61 ((((wd.setCell ⟨g, k * 5 + 1, none⟩ (.bool z.f2)).setCell ⟨g, k * 5 + 2, none⟩ (.bool z.f1)).setCell ⟨g, k * 5 + 3, none⟩ (.string z.f4)).setCell ⟨g, k * 5 + 4, none⟩ (.string z.f3)) w.heap.size (fun _ => True) (.slice (some ⟨g, 0, none⟩) l0.length c1) (l.set k (delta_Turn.turn z)) from hsg.1)
        have HBc := Aside0.mk (show Below w.heap.size w ((((wd.setCell ⟨g, k * 5 + 1, none⟩ (.bool z.f2)).setCell ⟨g, k * 5 + 2, none⟩ (.bool z.f1)).setCell ⟨g, k * 5 + 3, none⟩ (.string z.f4)).setCell ⟨g, k * 5 + 4, none⟩ (.string z.f3)) from (((HB.out.setCell HGE.out _).setCell HGE.out _).setCell HGE.out _).setCell HGE.out _)
        clear hsg HR HB HZ hw1 hw2 hw3 hw4 hf1 hf2 hf3 hf4
        generalize ((((wd.setCell ⟨g, k * 5 + 1, none⟩ (.bool z.f2)).setCell ⟨g, k * 5 + 2, none⟩ (.bool z.f1)).setCell ⟨g, k * 5 + 3, none⟩ (.string z.f4)).setCell ⟨g, k * 5 + 4, none⟩ (.string z.f3)) = wn at HSG HBc ⊢
        go_wp2
        go_roundg k1
        case measure => omega
        case rel => exact ⟨k + 1, _, by first | rfl | (simp [*]; done) | skip, ⟨by have := HJ.out; rw [List.length_set]; omega⟩, HNX, HSG, HBc⟩
  · rw [if_neg hl] at h; cases h


end Go.Proofs.Ytcocddpknkklhaa.PA
