-- WRITTEN BY a program of this session (pp.sh)
import Derived.Test.YtcocddpknkklhaaPAx0
namespace Go.Proofs.Ytcocddpknkklhaa.PA
open Go.RowKit Go.Proofs.YtcocddpknkklhaaW.PrintWords Go.Proofs.YtcocddpknkklhaaW.PrintLast Go.Proofs.YtcocddpknkklhaaW.PrintMore Go.Proofs.Ytcocddpknkklhaa.Plain
attribute [local go_sem] max2_int min2_int max_two min_two max_three min_three max_four min_four binOp_leq_s binOp_gtr_s binOp_geq_s lit_byte   -- for this text's walks alone
set_option linter.unusedVariables false
set_option linter.unusedSimpArgs false

/-! ### slices_Clone_Item: function 61, by hand -/
def slices_Clone_Item.f (l0 : List S59) : Option (List S59) := if l0.length < 4398046511104 then some l0 else none
set_option maxHeartbeats 8000000 in
set_option maxRecDepth 100000 in
theorem slices_Clone_Item.calls (A0 : Option Addr) (c0 : Nat) (l0 : List (S59)) (r : List (S59)) (w : World) (hr0 : Kd.C k59 w A0 l0.length l0) (hc0 : l0.length ≤ c0) (h : slices_Clone_Item.f l0 = some r) :
    Calls Try.prog 61 #[.slice A0 l0.length c0] w fun e w' => ∃ v0_ : Value, e = .returned (v0_) ∧ Kd.R k59 59 w' w.heap.size (fun _ => True) v0_ r ∧ Below w.heap.size w w' := by
  unfold slices_Clone_Item.f at h
  split at h
  case isFalse => cases h
  case isTrue hh =>
  obtain rfl := Option.some.inj h
  clear h
  have LM := Aside0.mk hh
  clear hh
  rcases A0 with _ | ad
  · have hl : l0 = [] := by
      rcases Nat.eq_zero_or_pos l0.length with h0 | h0
      · exact List.length_eq_zero_iff.mp h0
      · obtain ⟨ad, he, _⟩ := at_T59 hr0 0 (by omega) (by omega)
        cases he
    subst hl
    clear hr0 hc0
    have he : ∀ (w' : World) (n c : Nat), (binOp .eql 22 (.slice none n c) (.slice none 0 0)).run Try.prog w' = .ok (.bool true) w' := fun w' n c => Lib.run_eql_slice_nil w' _ _ none n c 0 0 Try.underlying22
    go_enter Try.func61, Try.ntmps61
    go_wp2
    go_ret
    exact ⟨_, rfl, Kd.R_nil _ _ _ _ _, Below.refl _ _⟩
  · have HR0 := Aside0.mk hr0
    have HB := Aside0.mk (Below.refl w.heap.size w)
    obtain ⟨y1, hy1⟩ : ∃ y_ : List (S59), y_ = [] := ⟨_, rfl⟩
    obtain ⟨y2, hy2⟩ : ∃ y_ : List (S59), y_ = y1 ++ l0 := ⟨_, rfl⟩
    have N1 := Aside0.mk hy1
    have N2 := Aside0.mk hy2
    have N3 := Aside0.mk (show y2 = l0 by rw [hy2, hy1, List.nil_append])
    clear hr0 hc0 hy1 hy2
    have he : ∀ (w' : World) (n c : Nat), (binOp .eql 22 (.slice (some ad) n c) (.slice none 0 0)).run Try.prog w' = .ok (.bool false) w' := fun w' n c => Lib.run_eql_slice_nil w' _ _ (some ad) n c 0 0 Try.underlying22
    go_enter Try.func61, Try.ntmps61
    go_wp2_with (first
      | ((with_reducible refine gate_dst (N := 5) rfl ?_); refine Kd.R_lit k59 _ 59 ?hg (N := 5) ?hd (xs := ([] : List (S59))) (inner := []) (ok := fun _ => True) (okp := fun _ => True) ?hr ?hp (fun _ hk => hk) trivial (Below.refl _ _) (Nat.le_refl _) (by simp) ?_; (case hd => rfl); (case hg => rfl); (case hr => first | (go_simp; done) | (go_simp; rfl)); (case hp => exact (Reps.none _ _)); intro v1 w3 ho4 hb hg_ hnew_; clear hg_ hnew_; rw [← N1.out] at ho4
         have HO := Aside0.mk (Kd.R_lower ho4 (below_size HB.out))
         have n1_ := Aside0.mk (below_step HB.out hb)
         clear HB
         have HB := n1_
         clear n1_ hb ho4)
      | ((with_reducible refine gate_builtin (b := .append) (xs := #[.tmp 5, .tmp 6]) rfl ?_); at_builtin; refine Kd.R_append_rows k59 (w0 := w) w.heap.size rfl (.tmp 5) (.tmp 6) 22 59 (.agg #[(.string ⟨#[]⟩), (.string ⟨#[]⟩)]) 32 rfl Try.underlying22 info59 rfl (by decide) (by omega) v1 y1 l0 _ _ _ (fun _ => True) (fun _ => False) rfl rfl ?aO ?aR (fun _ _ h => h) (fun _ h => h.elim) ?aF ?aB ?aS ?aL ?_
         case aR => exact (Kd.C_below HR0.out HB.out)
         case aB => exact HB.out
         case aF => exact (fun _ _ => trivial)
         case aO => exact HO.out
         case aS => exact (below_size HB.out)
         case aL => have h1 := LM.out; have h2 := N1.out; have h3 : y1.length = 0 := by rw [h2]; rfl
                    omega
         intro v2 w5 ho hb hg hat
         rw [← N2.out, N3.out] at ho
         have HO2 := Aside0.mk ho
         have HB2 := Aside0.mk hb
         clear ho hb hg hat HB HO))
    go_ret
    exact ⟨_, rfl, HO2.out, HB2.out⟩


end Go.Proofs.Ytcocddpknkklhaa.PA
