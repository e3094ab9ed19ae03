-- WRITTEN BY a program of this session (pp.sh)
import Derived.Test.YtcocddpknkklhaaPAx0
namespace Go.Proofs.Ytcocddpknkklhaa.PA
open Go.RowKit Go.Proofs.YtcocddpknkklhaaW.PrintWords Go.Proofs.YtcocddpknkklhaaW.PrintLast Go.Proofs.YtcocddpknkklhaaW.PrintMore Go.Proofs.Ytcocddpknkklhaa.Plain
attribute [local go_sem] max2_int min2_int max_two min_two max_three min_three max_four min_four binOp_leq_s binOp_gtr_s binOp_geq_s lit_byte   -- for this text's walks alone
set_option linter.unusedVariables false
set_option linter.unusedSimpArgs false

/-! ### coppicelaw18_mine: function 15 -/
def coppicelaw18_mine.f (l0 : List (S61)) : Option ((List (S61))) := (some (([] : List (S61)) : List (S61))).bind fun y141 => (if y141.length + l0.length < 2513169434916 then (some (y141 ++ l0)) else (none))
set_option maxHeartbeats 8000000 in
set_option maxRecDepth 100000 in
theorem coppicelaw18_mine.calls (A0 : Option Addr) (c0 : Nat) (l0 : List (S61)) (r : List (S61)) (w : World) (hr0 : Kd.C k61 w A0 l0.length l0) (hc0 : l0.length ≤ c0) (h : coppicelaw18_mine.f l0 = some r) :
  Calls Try.prog 15 #[.slice A0 l0.length c0] w fun e w' => ∃ v0_ : Value, e = .returned (v0_) ∧ Kd.R k61 61 w' w.heap.size (fun _ => True) v0_ r ∧ Below w.heap.size w w' := by
 have HR0 := Aside0.mk hr0
 have HC0 := Aside0.mk hc0
 clear hr0 hc0
 have HB := Aside0.mk (Below.refl w.heap.size w)
 have H : ((some (([] : List (S61)) : List (S61))).bind fun y141 => (if y141.length + l0.length < 2513169434916 then (some (y141 ++ l0)) else (none))) = some r := h
 clear h
 obtain ⟨y141, hy141⟩ : ∃ y_ : List (S61), y_ = (([] : List (S61))) := ⟨_, rfl⟩
 replace H : (if y141.length + l0.length < 2513169434916 then (some (y141 ++ l0)) else (none)) = some r := by first | (rw [hy141]; with_reducible exact H) | (have H2_ := (Option.bind_some _ _).symm.trans H; rw [hy141]; with_reducible exact H2_) | (have H2_ := (Option.bind_some _ _).symm.trans H; with_reducible exact H2_) | with_reducible exact H | (rw [hy141]; exact H) | exact H
 have Ny141 := Aside0.mk hy141
 clear hy141
 by_cases c2 : y141.length + l0.length < 2513169434916
 ·rw [if_pos c2] at H
  have LMc2 := Aside0.mk c2
  clear c2
  obtain ⟨y144, hy144⟩ : ∃ y_ : List (S61), y_ = (y141 ++ l0) := ⟨_, rfl⟩
  replace H : (some y144) = some r := by first | (rw [hy144]; with_reducible exact H) | (have H2_ := (Option.bind_some _ _).symm.trans H; rw [hy144]; with_reducible exact H2_) | (have H2_ := (Option.bind_some _ _).symm.trans H; with_reducible exact H2_) | with_reducible exact H | (rw [hy144]; exact H) | exact H
  have Ny144 := Aside0.mk hy144
  clear hy144
  obtain rfl := Option.some.inj H
  go_enter Try.func15, Try.ntmps15
  go_wp2_with (first | ((with_reducible refine gate_dst (N := 3) rfl ?_); refine Kd.R_lit k61 _ 61 ?hg (N := 3) ?hd (xs := ([] : List (S61))) (inner := []) (ok := fun _ => True) (okp := fun _ => True) ?hr ?hp (fun _ hk => hk) trivial (Below.refl _ _) (Nat.le_refl _) (by simp) ?_; (case hd => rfl); (case hg => rfl); (case hr => first | (go_simp; done) | (go_simp; rfl)); (case hp => exact (Reps.none _ _)); intro v142 w3 ho4 hb hg_ hnew_; clear hg_ hnew_; (first | rw [← Ny141.out] at ho4 | (simp only [Int.reduceToNat] at ho4; rw [← Ny141.out] at ho4)); have n0_ := Aside0.mk (Kd.R_lower ho4 (below_size (by repeat (first | (with_reducible first | exact HB.out | apply below_alloc | apply pw_below_drewN | apply below_drew1) | exact HB.out)))); have n1_ := Aside0.mk (below_step (by repeat (first | (with_reducible first | exact HB.out | apply below_alloc | apply pw_below_drewN | apply below_drew1) | exact HB.out)) hb); clear HB; have HO143 := n0_; have HB := n1_; clear n0_ n1_; clear hb ho4) | ((with_reducible refine gate_builtin (b := .append) (xs := #[.tmp 3, .tmp 4]) rfl ?_); at_builtin; refine Kd.R_append_rows k61 (w0 := w) w.heap.size rfl (.tmp 3) (.tmp 4) 23 61 (.agg #[(.string ⟨#[]⟩), (.bool false), (.bool false), (.string ⟨#[]⟩), (.string ⟨#[]⟩)]) 56 rfl Try.underlying23 info61 rfl (by decide) (by omega) v142 y141 l0 _ _ _ (fun _ => True) (fun _ => False) rfl rfl ?aO ?aR (fun _ _ h => h) (fun _ h => h.elim) ?aF ?aB ?aS ?aL ?_; (case aR => repeat (first | exact (Kd.C_below HR0.out HB.out) | (with_reducible refine Kd.C_alloc ?_ _) | (with_reducible refine Kd.C_drewN ?_ _) | (with_reducible refine Kd.C_drew ?_))); (case aB => exact (by repeat (first | (with_reducible first | exact HB.out | apply below_alloc | apply pw_below_drewN | apply below_drew1) | exact HB.out))); (case aF => exact (fun _ _ => trivial)); (case aO => exact (by (with_reducible repeat (first | apply Kd.R_alloc | apply Kd.R_drewN | apply Kd.R_drew)); exact HO143.out)); (case aS => exact (below_size (by repeat (first | (with_reducible first | exact HB.out | apply below_alloc | apply pw_below_drewN | apply below_drew1) | exact HB.out)))); (case aL => have := LMc2.out; omega); intro v145 w5 ho hb hg hat; rw [← Ny144.out] at ho; have n0_ := Aside0.mk (hb); have n1_ := Aside0.mk (ho); clear HB; clear HO143; have HB := n0_; have HO146 := n1_; clear n0_ n1_; clear ho hb hg hat))
  go_ret
  exact ⟨_, by first | rfl | (simp [errW_none, errW_some] <;> rfl) | (simp [*, errW_none, errW_some] <;> rfl), by (with_reducible repeat (first | apply Kd.R_alloc | apply Kd.R_drewN | apply Kd.R_drew)); exact HO146.out, by repeat (first | (with_reducible first | exact HB.out | apply below_alloc | apply pw_below_drewN | apply below_drew1) | exact HB.out)⟩
 ·rw [if_neg c2] at H
  exact absurd H (by simp)

end Go.Proofs.Ytcocddpknkklhaa.PA
