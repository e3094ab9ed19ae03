-- WRITTEN BY a program of this session (pp.sh)
import Derived.Test.YtdkbikaheagbfaaPTx0
import Derived.Test.YtdkbikaheagbfaaPTx9
import Derived.Test.YtdkbikaheagbfaaPTx10
import Derived.Test.YtdkbikaheagbfaaPTx12
namespace Go.Proofs.Ytdkbikaheagbfaa.PT
open Go.RowKit Go.Proofs.YtdkbikaheagbfaaW.PrintWords Go.Proofs.YtdkbikaheagbfaaW.PrintLast Go.Proofs.YtdkbikaheagbfaaW.PrintMore Go.Proofs.Ytdkbikaheagbfaa.Plain
attribute [local go_sem] max2_int min2_int max_two min_two max_three min_three max_four min_four binOp_leq_s binOp_gtr_s binOp_geq_s lit_byte   -- for this text's walks alone
set_option linter.unusedVariables false
set_option linter.unusedSimpArgs false

/-! ### node_Split: function 19 -/
def node_Split.l0 : Nat → List (S25) → Int → Int → Int → Bool → List (S44) → List (S46) → Option ((List (S25)))
 | 0, _, _, _, _, _, _, _ => none
 | k + 1, x3, x4, x5, x6, x150000, x150001, x150002 => if x6 ≤ x5 then (if x6 = x5 then ((node_part.f x150000 x150001 x150002 x4 x6).bind fun bt151 => (if x3.length < 2513169434916 then (node_Split.l0 k (x3 ++ [(⟨bt151.1, bt151.2.1, bt151.2.2⟩ : S25)]) x6 x5 (wrap64 (x6 + 1)) x150000 x150001 x150002) else (none))) else ((node_part.f x150000 x150001 x150002 x4 (wrap64 (x6 + 1))).bind fun bt161 => ((node_Size.f bt161.1 bt161.2.1 bt161.2.2).bind fun t168 => (if t168 > 1007 then ((node_part.f x150000 x150001 x150002 x4 x6).bind fun bt169 => (if x3.length < 2513169434916 then (node_Split.l0 k (x3 ++ [(⟨bt169.1, bt169.2.1, bt169.2.2⟩ : S25)]) x6 x5 (wrap64 (x6 + 1)) x150000 x150001 x150002) else (none))) else (node_Split.l0 k x3 x4 x5 (wrap64 (x6 + 1)) x150000 x150001 x150002))))) else (some x3)
def node_Split.f (k : Nat) (a0_0 : Bool) (l0_1 : List (S44)) (l0_2 : List (S46)) : Option ((List (S25))) := (node_right.f a0_0 l0_1 l0_2).bind fun t150 => (if t150 = true then (node_Split.l0 k ([] : List (S25)) 0 (wrap64 ((l0_1.length : Int) + (l0_2.length : Int))) 1 a0_0 l0_1 l0_2) else (some ([] : List (S25))))
theorem node_Split.mono_l : ∀ k, (∀ y0 y1 y2 y3 y4 y5 y6, LeO (node_Split.l0 k y0 y1 y2 y3 y4 y5 y6) (node_Split.l0 (k + 1) y0 y1 y2 y3 y4 y5 y6))
 | 0 => fun _ _ _ _ _ _ _ r h => by simp [node_Split.l0] at h
 | k + 1 => by
  have ih0 := node_Split.mono_l k
  ·intro y0 y1 y2 y3 y4 y5 y6
   unfold node_Split.l0
   repeat' first
   | (with_reducible exact ih0 _ _ _ _ _ _ _)
   | (with_reducible exact LeO.refl _)
   | (with_reducible refine LeO.ite ?_ ?_)
   | (with_reducible refine LeO.bind ?_ (fun _ => ?_))
theorem node_Split.mono : ∀ a0 a1 a2 k, LeO (node_Split.f k a0 a1 a2) (node_Split.f (k + 1) a0 a1 a2) := by
 intro a0 a1 a2 k
 have ih0 := node_Split.mono_l k
 unfold node_Split.f
 repeat' first
   | (with_reducible exact ih0 _ _ _ _ _ _ _)
   | (with_reducible exact LeO.refl _)
   | (with_reducible refine LeO.ite ?_ ?_)
   | (with_reducible refine LeO.bind ?_ (fun _ => ?_))
set_option maxHeartbeats 8000000 in
set_option maxRecDepth 100000 in
theorem node_Split.calls (k : Nat) (a0_0 : Bool) (A0_1 : Option Addr) (c0_1 : Nat) (l0_1 : List (S44)) (A0_2 : Option Addr) (c0_2 : Nat) (l0_2 : List (S46)) (r : List (S25)) (w : World) (hr0_1 : Kd.C k44 w A0_1 l0_1.length l0_1) (hc0_1 : l0_1.length ≤ c0_1) (hr0_2 : Kd.C k46 w A0_2 l0_2.length l0_2) (hc0_2 : l0_2.length ≤ c0_2) (h : node_Split.f k a0_0 l0_1 l0_2 = some r) :
  Calls Try.prog 19 #[.agg #[.bool a0_0, .slice A0_1 l0_1.length c0_1, .slice A0_2 l0_2.length c0_2]] w fun e w' => ∃ v0_ : Value, e = .returned (v0_) ∧ Kd.S k25 25 w' w.heap.size (fun _ => True) v0_ r ∧ Below w.heap.size w w' := by
 have hu25 := Try.underlying25
 have HR0_1 := Aside0.mk hr0_1
 have HC0_1 := Aside0.mk hc0_1
 clear hr0_1 hc0_1
 have HR0_2 := Aside0.mk hr0_2
 have HC0_2 := Aside0.mk hc0_2
 clear hr0_2 hc0_2
 have HB := Aside0.mk (Below.refl w.heap.size w)
 have H : ((node_right.f a0_0 l0_1 l0_2).bind fun qz => (if qz = true then (node_Split.l0 k ([] : List (S25)) 0 (wrap64 ((l0_1.length : Int) + (l0_2.length : Int))) 1 a0_0 l0_1 l0_2) else (some ([] : List (S25))))) = some r := h
 clear h
 replace H := Option.bind_eq_some_iff.mp H
 obtain ⟨qz, A20, H⟩ := H
 replace H : (if qz = true then (node_Split.l0 k ([] : List (S25)) 0 (wrap64 ((l0_1.length : Int) + (l0_2.length : Int))) 1 a0_0 l0_1 l0_2) else (some ([] : List (S25)))) = some r := H
 have A2 := Aside0.mk A20
 clear A20
 by_cases c3 : qz = true
 ·subst c3
  have H1 : (node_Split.l0 k ([] : List (S25)) 0 (wrap64 ((l0_1.length : Int) + (l0_2.length : Int))) 1 a0_0 l0_1 l0_2) = some r := by rw [if_pos rfl] at H; exact H
  clear H
  have H := H1
  clear H1
  have H' := Aside0.mk H
  clear H
  go_enter Try.func19, Try.ntmps19
  go_wp2_with (first | ((with_reducible refine gate_dst (N := 1) rfl ?_); refine box_event ?hg (N := 1) ?hd (cs := #[.bool a0_0, .slice A0_1 l0_1.length c0_1, .slice A0_2 l0_2.length c0_2]) (t := 25) ?hr ?_; (case hd => rfl); (case hg => rfl); (case hr => ((go_simp; done))); intro qc hg w4 hbox hb; have n0_ := Aside0.mk (below_step (by repeat (((with_reducible (exact HB.out))))) hb); have n1_ := Aside0.mk (hbox); have n2_ := Aside0.mk ((by rw [hg]; exact (below_size (by repeat (((with_reducible (exact HB.out)))))) : w.heap.size ≤ qc)); have n3_ := Aside0.mk ((by rw [hg]; exact (below_size (by repeat (((with_reducible (exact HB.out)))))) : w.heap.size ≤ qc)); clear HB; have HB := n0_; have qb := n1_; have GW149 := n2_; have qaq := n3_; clear n0_ n1_ n2_ n3_; clear hb hbox hg; have hcz5_0 : w4.cell? ⟨qc, 0, none⟩ = some (.bool a0_0) := (blk_cell qb.out 0).trans rfl; have hcz5_1 : w4.cell? ⟨qc, 1, none⟩ = some (.slice A0_1 l0_1.length c0_1) := (blk_cell qb.out 1).trans rfl; have hcz5_2 : w4.cell? ⟨qc, 2, none⟩ = some (.slice A0_2 l0_2.length c0_2) := (blk_cell qb.out 2).trans rfl; have hfz5_0 := blk_frozen qb.out 0; have hfz5_1 := blk_frozen qb.out 1; have hfz5_2 := blk_frozen qb.out 2) | (go_at_call 29; (with_reducible refine (node_right.calls a0_0 _ _ l0_1 _ _ l0_2 true _ ?side1 ?side2 ?side3 ?side4 A2.out).mono ?_); (case side1 => repeat ((exact (Kd.C_below HR0_1.out HB.out)))); (case side2 => exact HC0_1.out); (case side3 => repeat ((exact (Kd.C_below HR0_2.out HB.out)))); (case side4 => exact HC0_2.out); rintro e w6 ⟨rfl, hb⟩; have n0_ := Aside0.mk (blk_below (g := qc) (o := .cells #[.bool a0_0, .slice A0_1 l0_1.length c0_1, .slice A0_2 l0_2.length c0_2] 25 (0, 0)) (by exact qb.out) hb); have n1_ := Aside0.mk (below_step (by repeat (((with_reducible (exact HB.out))))) hb); clear qb; clear HB; have qb := n0_; have HB := n1_; clear n0_ n1_; (try clear hb); (try clear hb2); (try clear hk); (try clear hi); have hcz7_0 : w6.cell? ⟨qc, 0, none⟩ = some (.bool a0_0) := (blk_cell qb.out 0).trans rfl; have hcz7_1 : w6.cell? ⟨qc, 1, none⟩ = some (.slice A0_1 l0_1.length c0_1) := (blk_cell qb.out 1).trans rfl; have hcz7_2 : w6.cell? ⟨qc, 2, none⟩ = some (.slice A0_2 l0_2.length c0_2) := (blk_cell qb.out 2).trans rfl; have hfz7_0 := blk_frozen qb.out 0; have hfz7_1 := blk_frozen qb.out 1; have hfz7_2 := blk_frozen qb.out 2))
  repeat (go_quiet (fail); try go_wp2_with (fail))
  go_loopg [3, 4, 6] k (fun kq v3 v4 v6 w' => ∃ (x3_1 : List (S25)) (x4_1 : Int) (x6_1 : Int), v4 = .int .i64 x4_1 ∧ v6 = .int .i64 x6_1 ∧ Aside0 (node_Split.l0 kq x3_1 x4_1 (wrap64 ((l0_1.length : Int) + (l0_2.length : Int))) x6_1 a0_0 l0_1 l0_2 = some r) ∧ Aside0 (kq ≤ k) ∧ Aside0 (Kd.S k25 25 w' w.heap.size (fun k_ => k_ ≠ qc) v3 x3_1) ∧ Aside0 (w'.heap[qc]? = some (.cells #[.bool a0_0, (.slice A0_1 l0_1.length c0_1), (.slice A0_2 l0_2.length c0_2)] 25 (0, 0))) ∧ Aside0 (Below w.heap.size w w'))
  case atStart => exact ⟨(([] : List (S25))), (0), (1), (by (rfl)), (by (rfl)), H', ⟨Nat.le_refl _⟩, ⟨by (exact Kd.S_nil _ _ _ _ _)⟩, ⟨by (with_reducible repeat ((refine blk_drewN ?_ _))); exact qb.out⟩, ⟨by repeat (((with_reducible first | exact HB.out | apply pw_below_drewN )))⟩⟩
  case round =>
   clear H'
   try clear c1
   try clear p2
   try clear c3
   try clear p6
   try clear hcz5_0
   try clear hcz5_1
   try clear hcz5_2
   try clear hcz7_0
   try clear hcz7_1
   try clear hcz7_2
   try clear hfz5_0
   try clear hfz5_1
   try clear hfz5_2
   try clear hfz7_0
   try clear hfz7_1
   try clear hfz7_2
   obtain ⟨x3_1, x4_1, x6_1, rfl, rfl, HA, HK1, HO_3, qb, HB⟩ := hrel
   cases gk with
   | zero => exact absurd HA.out (by simp [node_Split.l0])
   | succ k1 =>
    have H := HA.out
    clear HA
    simp only [node_Split.l0] at H
    by_cases c8 : x6_1 ≤ (wrap64 ((l0_1.length : Int) + (l0_2.length : Int)))
    ·rw [if_pos c8] at H
     have c8b0 : decide (x6_1 ≤ (wrap64 ((l0_1.length : Int) + (l0_2.length : Int)))) = true := decide_eq_true c8
     clear c8
     by_cases c9 : x6_1 = (wrap64 ((l0_1.length : Int) + (l0_2.length : Int)))
     ·rw [if_pos c9] at H
      have c9b0 : (x6_1 == (wrap64 ((l0_1.length : Int) + (l0_2.length : Int)))) = true := beq_iff_eq.mpr c9
      have c9b1 : (x6_1 != (wrap64 ((l0_1.length : Int) + (l0_2.length : Int)))) = false := bne_eq_false_iff_eq.mpr c9
      clear c9
      replace H := Option.bind_eq_some_iff.mp H
      obtain ⟨⟨qn, qk, qm⟩, A100, H⟩ := H
      replace H : (if x3_1.length < 2513169434916 then (node_Split.l0 k1 (x3_1 ++ [(⟨qn, qk, qm⟩ : S25)]) x6_1 (wrap64 ((l0_1.length : Int) + (l0_2.length : Int))) (wrap64 (x6_1 + 1)) a0_0 l0_1 l0_2) else (none)) = some r := H
      have A10 := Aside0.mk A100
      clear A100
      by_cases c11 : x3_1.length < 2513169434916
      ·rw [if_pos c11] at H
       have qan := Aside0.mk c11
       clear c11
       obtain ⟨qaf, qy⟩ : ∃ y_ : List (S25), y_ = (x3_1 ++ [(⟨qn, qk, qm⟩ : S25)]) := ⟨_, rfl⟩
       replace H : (node_Split.l0 k1 qaf x6_1 (wrap64 ((l0_1.length : Int) + (l0_2.length : Int))) (wrap64 (x6_1 + 1)) a0_0 l0_1 l0_2) = some r := by ((rw [qy]; with_reducible exact H))
       have qap := Aside0.mk qy
       clear qy
       have H' := Aside0.mk H
       clear H
       have hcz12_0 : wr.cell? ⟨qc, 0, none⟩ = some (.bool a0_0) := (blk_cell qb.out 0).trans rfl
       have hcz12_1 : wr.cell? ⟨qc, 1, none⟩ = some (.slice A0_1 l0_1.length c0_1) := (blk_cell qb.out 1).trans rfl
       have hcz12_2 : wr.cell? ⟨qc, 2, none⟩ = some (.slice A0_2 l0_2.length c0_2) := (blk_cell qb.out 2).trans rfl
       have hfz12_0 := blk_frozen qb.out 0
       have hfz12_1 := blk_frozen qb.out 1
       have hfz12_2 := blk_frozen qb.out 2
       go_wp2_with (first | (go_at_call 34; (with_reducible refine (node_part.calls a0_0 _ _ l0_1 _ _ l0_2 x4_1 x6_1 qn qk qm _ ?side1 ?side2 ?side3 ?side4 A10.out).mono ?_); (case side1 => repeat ((exact (Kd.C_below HR0_1.out HB.out)))); (case side2 => exact HC0_1.out); (case side3 => repeat ((exact (Kd.C_below HR0_2.out HB.out)))); (case side4 => exact HC0_2.out); rintro e w13 ⟨qbk, qbg, rfl, ho0, ho1, hb⟩; have n0_ := Aside0.mk (Kd.S_mono (Kd.S_told (Kd.S_told (Kd.S_old (by exact HO_3.out) hb) (Kd.R_base ho0)) (Kd.R_base ho1)) (fun _ h_ => h_.1)); have n1_ := Aside0.mk (Kd.R_lower ho0 (below_size (by repeat (((with_reducible (exact HB.out))))))); have n2_ := Aside0.mk (Kd.R_lower ho1 (below_size (by repeat (((with_reducible (exact HB.out))))))); have n3_ := Aside0.mk (blk_below (g := qc) (o := .cells #[.bool a0_0, .slice A0_1 l0_1.length c0_1, .slice A0_2 l0_2.length c0_2] 25 (0, 0)) (by exact qb.out) hb); have n4_ := Aside0.mk (below_step (by repeat (((with_reducible (exact HB.out))))) hb); clear HO_3; clear qb; clear HB; have HO_3 := n0_; have qr := n1_; have qq := n2_; have qb := n3_; have HB := n4_; clear n0_ n1_ n2_ n3_ n4_; (try clear hb); (try clear hb2); (try clear hk); (try clear hi); (try clear ho0); (try clear ho1); obtain ⟨qai, qad, qav⟩ := Kd.R_slice qr.out; subst qav; obtain ⟨qak, qag, qay⟩ := Kd.R_slice qq.out; subst qay) | ((with_reducible refine gate_builtin (b := .append) (xs := #[.tmp 34, .tmp 39]) rfl ?_); at_builtin; refine Kd.S_append k25 (w0 := w) w.heap.size rfl (.tmp 34) (.tmp 39) 38 25 (.agg #[(.bool false), (.slice none 0 0), (.slice none 0 0)]) 56 rfl Try.underlying38 info25 rfl (by decide) (by omega) u3 x3_1 (⟨qn, qk, qm⟩ : S25) [.bool qn, .slice qai qk.length qad, .slice qak qm.length qag] (fun k_ => k_ ≠ qc) (fun k_ => some k_ = (.slice qai qk.length qad : Value).ownBlock ∨ some k_ = (.slice qak qm.length qag : Value).ownBlock) rfl rfl ?aP (fun k_ hk_ => hk_.elim (fun h_ => ((Kd.R_mono (ok' := fun k_ => ((fun k_ => k_ ≠ qc)) k_ ∧ some k_ ≠ (u3 : Value).ownBlock) (Kd.R_types (Kd.R_apart' (qr.out) (Kd.S_typed HO_3.out) (by decide)) qb.out (by decide)) (fun k_ hk => ⟨hk.2, hk.1.2⟩))).1 k_ h_.symm) (fun h_ => ((Kd.R_mono (ok' := fun k_ => ((fun k_ => k_ ≠ qc)) k_ ∧ some k_ ≠ (u3 : Value).ownBlock) (Kd.R_types (Kd.R_apart' (qq.out) (Kd.S_typed HO_3.out) (by decide)) qb.out (by decide)) (fun k_ hk => ⟨hk.2, hk.1.2⟩))).1 k_ h_.symm)) ?aF ?aO ?aB ?aS ?aL ?_; (case aP => exact k25_mkM _ _ _ (⟨qn, qk, qm⟩ : S25) (Kd.R_mono (Kd.R_tight rfl (Kd.R_mono (ok' := fun k_ => ((fun k_ => k_ ≠ qc)) k_ ∧ some k_ ≠ (u3 : Value).ownBlock) (Kd.R_types (Kd.R_apart' (qr.out) (Kd.S_typed HO_3.out) (by decide)) qb.out (by decide)) (fun k_ hk => ⟨hk.2, hk.1.2⟩))) (fun _ h_ => Or.inl h_)) (Kd.R_mono (Kd.R_tight rfl (Kd.R_mono (ok' := fun k_ => ((fun k_ => k_ ≠ qc)) k_ ∧ some k_ ≠ (u3 : Value).ownBlock) (Kd.R_types (Kd.R_apart' (qq.out) (Kd.S_typed HO_3.out) (by decide)) qb.out (by decide)) (fun k_ hk => ⟨hk.2, hk.1.2⟩))) (fun _ h_ => Or.inr (h_)))); (case aB => exact (by repeat (((with_reducible (exact HB.out)))))); (case aF => exact (fun k_ hk => Kd.freshB (g := qc) (o := .cells #[.bool a0_0, .slice A0_1 l0_1.length c0_1, .slice A0_2 l0_2.length c0_2] 25 (0, 0)) (by exact qb.out) k_ hk)); (case aO => exact (by exact Kd.S_mono HO_3.out (fun k_ hk => ⟨hk.1.1, fun e_ => e_.elim (fun h_ => hk.1.2 h_) (fun h_ => hk.2 h_)⟩))); (case aS => exact (below_size (by repeat (((with_reducible (exact HB.out))))))); (case aL => have := qan.out; omega); intro qbl w14 ho hb hg hat; rw [← qap.out] at ho; have n0_ := Aside0.mk (blk_grown (g := qc) (o := .cells #[.bool a0_0, .slice A0_1 l0_1.length c0_1, .slice A0_2 l0_2.length c0_2] 25 (0, 0)) (by exact qb.out) hg (Kd.S_away HO_3.out (fun _ hk => hk.1.1))); have n1_ := Aside0.mk (hb); have n2_ := Aside0.mk (ho); clear qb; clear HB; clear HO_3; clear qr; clear qq; have qb := n0_; have HB := n1_; have qar := n2_; clear n0_ n1_ n2_; clear ho hb hg hat))
       repeat (go_quiet (fail); try go_wp2_with (fail))
       go_roundg k1
       case measure => have := HK1.out; omega
       case rel => exact ⟨(qaf), (x6_1), (wrap64 (x6_1 + 1)), (by (rfl)), (by (rfl)), H', ⟨by have := HK1.out; omega⟩, ⟨by exact qar.out⟩, ⟨by exact qb.out⟩, ⟨by repeat (((with_reducible (exact HB.out))))⟩⟩
      ·rw [if_neg c11] at H
       exact absurd H (by simp)
     ·rw [if_neg c9] at H
      have c9b0 : (x6_1 == (wrap64 ((l0_1.length : Int) + (l0_2.length : Int)))) = false := beq_eq_false_iff_ne.mpr c9
      have c9b1 : (x6_1 != (wrap64 ((l0_1.length : Int) + (l0_2.length : Int)))) = true := bne_iff_ne.mpr c9
      replace H := Option.bind_eq_some_iff.mp H
      obtain ⟨⟨qu, qg, qf⟩, A170, H⟩ := H
      replace H : ((node_Size.f qu qg qf).bind fun qi => (if qi > 1007 then ((node_part.f a0_0 l0_1 l0_2 x4_1 x6_1).bind fun qh => (if x3_1.length < 2513169434916 then (node_Split.l0 k1 (x3_1 ++ [(⟨qh.1, qh.2.1, qh.2.2⟩ : S25)]) x6_1 (wrap64 ((l0_1.length : Int) + (l0_2.length : Int))) (wrap64 (x6_1 + 1)) a0_0 l0_1 l0_2) else (none))) else (node_Split.l0 k1 x3_1 x4_1 (wrap64 ((l0_1.length : Int) + (l0_2.length : Int))) (wrap64 (x6_1 + 1)) a0_0 l0_1 l0_2))) = some r := H
      have A17 := Aside0.mk A170
      clear A170
      replace H := Option.bind_eq_some_iff.mp H
      obtain ⟨qi, A180, H⟩ := H
      replace H : (if qi > 1007 then ((node_part.f a0_0 l0_1 l0_2 x4_1 x6_1).bind fun qh => (if x3_1.length < 2513169434916 then (node_Split.l0 k1 (x3_1 ++ [(⟨qh.1, qh.2.1, qh.2.2⟩ : S25)]) x6_1 (wrap64 ((l0_1.length : Int) + (l0_2.length : Int))) (wrap64 (x6_1 + 1)) a0_0 l0_1 l0_2) else (none))) else (node_Split.l0 k1 x3_1 x4_1 (wrap64 ((l0_1.length : Int) + (l0_2.length : Int))) (wrap64 (x6_1 + 1)) a0_0 l0_1 l0_2)) = some r := H
      have A18 := Aside0.mk A180
      clear A180
      by_cases c19 : qi > 1007
      ·rw [if_pos c19] at H
       have c19b0 : decide (1007 < qi) = true := decide_eq_true c19
       clear c19
       replace H := Option.bind_eq_some_iff.mp H
       obtain ⟨⟨qo, ql, qj⟩, A200, H⟩ := H
       replace H : (if x3_1.length < 2513169434916 then (node_Split.l0 k1 (x3_1 ++ [(⟨qo, ql, qj⟩ : S25)]) x6_1 (wrap64 ((l0_1.length : Int) + (l0_2.length : Int))) (wrap64 (x6_1 + 1)) a0_0 l0_1 l0_2) else (none)) = some r := H
       have A20 := Aside0.mk A200
       clear A200
       by_cases c21 : x3_1.length < 2513169434916
       ·rw [if_pos c21] at H
        have qam := Aside0.mk c21
        clear c21
        obtain ⟨qac, qaa⟩ : ∃ y_ : List (S25), y_ = (x3_1 ++ [(⟨qo, ql, qj⟩ : S25)]) := ⟨_, rfl⟩
        replace H : (node_Split.l0 k1 qac x6_1 (wrap64 ((l0_1.length : Int) + (l0_2.length : Int))) (wrap64 (x6_1 + 1)) a0_0 l0_1 l0_2) = some r := by ((rw [qaa]; with_reducible exact H))
        have qal := Aside0.mk qaa
        clear qaa
        have H' := Aside0.mk H
        clear H
        have hcz22_0 : wr.cell? ⟨qc, 0, none⟩ = some (.bool a0_0) := (blk_cell qb.out 0).trans rfl
        have hcz22_1 : wr.cell? ⟨qc, 1, none⟩ = some (.slice A0_1 l0_1.length c0_1) := (blk_cell qb.out 1).trans rfl
        have hcz22_2 : wr.cell? ⟨qc, 2, none⟩ = some (.slice A0_2 l0_2.length c0_2) := (blk_cell qb.out 2).trans rfl
        have hfz22_0 := blk_frozen qb.out 0
        have hfz22_1 := blk_frozen qb.out 1
        have hfz22_2 := blk_frozen qb.out 2
        go_wp2_with (first | (go_at_call 34; (with_reducible refine (node_part.calls a0_0 _ _ l0_1 _ _ l0_2 x4_1 (wrap64 (x6_1 + 1)) qu qg qf _ ?side1 ?side2 ?side3 ?side4 A17.out).mono ?_); (case side1 => repeat ((exact (Kd.C_below HR0_1.out HB.out)))); (case side2 => exact HC0_1.out); (case side3 => repeat ((exact (Kd.C_below HR0_2.out HB.out)))); (case side4 => exact HC0_2.out); rintro e w23 ⟨qaw, qba, rfl, ho0, ho1, hb⟩; have n0_ := Aside0.mk (Kd.S_mono (Kd.S_told (Kd.S_told (Kd.S_old (by exact HO_3.out) hb) (Kd.R_base ho0)) (Kd.R_base ho1)) (fun _ h_ => h_.1)); have n1_ := Aside0.mk (Kd.R_lower ho0 (below_size (by repeat (((with_reducible (exact HB.out))))))); have n2_ := Aside0.mk (Kd.R_lower ho1 (below_size (by repeat (((with_reducible (exact HB.out))))))); have n3_ := Aside0.mk (blk_below (g := qc) (o := .cells #[.bool a0_0, .slice A0_1 l0_1.length c0_1, .slice A0_2 l0_2.length c0_2] 25 (0, 0)) (by exact qb.out) hb); have n4_ := Aside0.mk (below_step (by repeat (((with_reducible (exact HB.out))))) hb); clear HO_3; clear qb; clear HB; have HO_3 := n0_; have qd := n1_; have qe := n2_; have qb := n3_; have HB := n4_; clear n0_ n1_ n2_ n3_ n4_; (try clear hb); (try clear hb2); (try clear hk); (try clear hi); (try clear ho0); (try clear ho1); obtain ⟨qv, qt, qas⟩ := Kd.R_slice qd.out; subst qas; obtain ⟨qx, qw, qbb⟩ := Kd.R_slice qe.out; subst qbb) | (go_at_call 15; (with_reducible refine (node_Size.calls qu _ _ qg _ _ qf qi _ ?side1 ?side2 ?side3 ?side4 A18.out).mono ?_); (case side1 => repeat ((exact (Kd.R_reads' qd.out).2.2))); (case side2 => exact (Kd.R_reads' qd.out).2.1); (case side3 => repeat ((exact (Kd.R_reads' qe.out).2.2))); (case side4 => exact (Kd.R_reads' qe.out).2.1); rintro e w26 ⟨rfl, hb⟩; have n0_ := Aside0.mk (Kd.S_below (by exact HO_3.out) hb); have n1_ := Aside0.mk (Kd.R_below (by exact qd.out) hb); have n2_ := Aside0.mk (Kd.R_below (by exact qe.out) hb); have n3_ := Aside0.mk (blk_below (g := qc) (o := .cells #[.bool a0_0, .slice A0_1 l0_1.length c0_1, .slice A0_2 l0_2.length c0_2] 25 (0, 0)) (by exact qb.out) hb); have n4_ := Aside0.mk (below_step (by repeat (((with_reducible (exact HB.out))))) hb); clear HO_3; clear qd; clear qe; clear qb; clear HB; have HO_3 := n0_; have qd := n1_; have qe := n2_; have qb := n3_; have HB := n4_; clear n0_ n1_ n2_ n3_ n4_; (try clear hb); (try clear hb2); (try clear hk); (try clear hi); have hcz27_0 : w26.cell? ⟨qc, 0, none⟩ = some (.bool a0_0) := (blk_cell qb.out 0).trans rfl; have hcz27_1 : w26.cell? ⟨qc, 1, none⟩ = some (.slice A0_1 l0_1.length c0_1) := (blk_cell qb.out 1).trans rfl; have hcz27_2 : w26.cell? ⟨qc, 2, none⟩ = some (.slice A0_2 l0_2.length c0_2) := (blk_cell qb.out 2).trans rfl; have hfz27_0 := blk_frozen qb.out 0; have hfz27_1 := blk_frozen qb.out 1; have hfz27_2 := blk_frozen qb.out 2) | (go_at_call 34; (with_reducible refine (node_part.calls a0_0 _ _ l0_1 _ _ l0_2 x4_1 x6_1 qo ql qj _ ?side1 ?side2 ?side3 ?side4 A20.out).mono ?_); (case side1 => repeat ((exact (Kd.C_below HR0_1.out HB.out)))); (case side2 => exact HC0_1.out); (case side3 => repeat ((exact (Kd.C_below HR0_2.out HB.out)))); (case side4 => exact HC0_2.out); rintro e w28 ⟨qbj, qbe, rfl, ho0, ho1, hb⟩; have n0_ := Aside0.mk (Kd.S_mono (Kd.S_told (Kd.S_told (Kd.S_old (by exact HO_3.out) hb) (Kd.R_base ho0)) (Kd.R_base ho1)) (fun _ h_ => h_.1)); have n1_ := Aside0.mk (Kd.R_elder' (by exact qd.out) (Kd.R_base ho0) hb); have n2_ := Aside0.mk (Kd.R_elder' (by exact qe.out) (Kd.R_base ho1) hb); have n3_ := Aside0.mk (Kd.R_lower (Kd.R_new' ho0 (Kd.R_lt (by exact qd.out))) (below_size (by repeat (((with_reducible (exact HB.out))))))); have n4_ := Aside0.mk (Kd.R_lower (Kd.R_new' ho1 (Kd.R_lt (by exact qe.out))) (below_size (by repeat (((with_reducible (exact HB.out))))))); have n5_ := Aside0.mk (blk_below (g := qc) (o := .cells #[.bool a0_0, .slice A0_1 l0_1.length c0_1, .slice A0_2 l0_2.length c0_2] 25 (0, 0)) (by exact qb.out) hb); have n6_ := Aside0.mk (below_step (by repeat (((with_reducible (exact HB.out))))) hb); clear HO_3; clear qd; clear qe; clear qb; clear HB; have HO_3 := n0_; have qd := n1_; have qe := n2_; have qp := n3_; have qs := n4_; have qb := n5_; have HB := n6_; clear n0_ n1_ n2_ n3_ n4_ n5_ n6_; (try clear hb); (try clear hb2); (try clear hk); (try clear hi); (try clear ho0); (try clear ho1); obtain ⟨qah, qaj, qat⟩ := Kd.R_slice qp.out; subst qat; obtain ⟨qae, qab, qax⟩ := Kd.R_slice qs.out; subst qax) | ((with_reducible refine gate_builtin (b := .append) (xs := #[.tmp 34, .tmp 39]) rfl ?_); at_builtin; refine Kd.S_append k25 (w0 := w) w.heap.size rfl (.tmp 34) (.tmp 39) 38 25 (.agg #[(.bool false), (.slice none 0 0), (.slice none 0 0)]) 56 rfl Try.underlying38 info25 rfl (by decide) (by omega) u3 x3_1 (⟨qo, ql, qj⟩ : S25) [.bool qo, .slice qah ql.length qaj, .slice qae qj.length qab] (fun k_ => some k_ ≠ (.slice qv qg.length qt : Value).ownBlock ∧ some k_ ≠ (.slice qx qf.length qw : Value).ownBlock ∧ k_ ≠ qc) (fun k_ => some k_ = (.slice qah ql.length qaj : Value).ownBlock ∨ some k_ = (.slice qae qj.length qab : Value).ownBlock) rfl rfl ?aP (fun k_ hk_ => hk_.elim (fun h_ => ((Kd.R_mono (ok' := fun k_ => ((fun k_ => some k_ ≠ (.slice qv qg.length qt : Value).ownBlock ∧ some k_ ≠ (.slice qx qf.length qw : Value).ownBlock ∧ k_ ≠ qc)) k_ ∧ some k_ ≠ (u3 : Value).ownBlock) (Kd.R_types (Kd.R_apart' (Kd.R_apart' (qp.out) (Kd.R_typed qe.out) (by decide)) (Kd.S_typed HO_3.out) (by decide)) qb.out (by decide)) (fun k_ hk => ⟨⟨hk.1.1.1.2, ⟨hk.1.1.2, hk.2⟩⟩, hk.1.2⟩))).1 k_ h_.symm) (fun h_ => ((Kd.R_mono (ok' := fun k_ => ((fun k_ => some k_ ≠ (.slice qv qg.length qt : Value).ownBlock ∧ some k_ ≠ (.slice qx qf.length qw : Value).ownBlock ∧ k_ ≠ qc)) k_ ∧ some k_ ≠ (u3 : Value).ownBlock) (Kd.R_types (Kd.R_apart' (Kd.R_apart' (qs.out) (Kd.R_typed qd.out) (by decide)) (Kd.S_typed HO_3.out) (by decide)) qb.out (by decide)) (fun k_ hk => ⟨⟨hk.1.1.2, ⟨hk.1.1.1.2, hk.2⟩⟩, hk.1.2⟩))).1 k_ h_.symm)) ?aF ?aO ?aB ?aS ?aL ?_; (case aP => exact k25_mkM _ _ _ (⟨qo, ql, qj⟩ : S25) (Kd.R_mono (Kd.R_tight rfl (Kd.R_mono (ok' := fun k_ => ((fun k_ => some k_ ≠ (.slice qv qg.length qt : Value).ownBlock ∧ some k_ ≠ (.slice qx qf.length qw : Value).ownBlock ∧ k_ ≠ qc)) k_ ∧ some k_ ≠ (u3 : Value).ownBlock) (Kd.R_types (Kd.R_apart' (Kd.R_apart' (qp.out) (Kd.R_typed qe.out) (by decide)) (Kd.S_typed HO_3.out) (by decide)) qb.out (by decide)) (fun k_ hk => ⟨⟨hk.1.1.1.2, ⟨hk.1.1.2, hk.2⟩⟩, hk.1.2⟩))) (fun _ h_ => Or.inl h_)) (Kd.R_mono (Kd.R_tight rfl (Kd.R_mono (ok' := fun k_ => ((fun k_ => some k_ ≠ (.slice qv qg.length qt : Value).ownBlock ∧ some k_ ≠ (.slice qx qf.length qw : Value).ownBlock ∧ k_ ≠ qc)) k_ ∧ some k_ ≠ (u3 : Value).ownBlock) (Kd.R_types (Kd.R_apart' (Kd.R_apart' (qs.out) (Kd.R_typed qd.out) (by decide)) (Kd.S_typed HO_3.out) (by decide)) qb.out (by decide)) (fun k_ hk => ⟨⟨hk.1.1.2, ⟨hk.1.1.1.2, hk.2⟩⟩, hk.1.2⟩))) (fun _ h_ => Or.inr (h_)))); (case aB => exact (by repeat (((with_reducible (exact HB.out)))))); (case aF => exact (fun k_ hk => ⟨Kd.fresh' (Kd.R_lt (by exact qd.out)) k_ hk, Kd.fresh' (Kd.R_lt (by exact qe.out)) k_ hk, Kd.freshB (g := qc) (o := .cells #[.bool a0_0, .slice A0_1 l0_1.length c0_1, .slice A0_2 l0_2.length c0_2] 25 (0, 0)) (by exact qb.out) k_ hk⟩)); (case aO => exact (by exact Kd.S_mono HO_3.out (fun k_ hk => ⟨⟨hk.1.1.1.2, ⟨hk.1.1.2, hk.1.1.1.1⟩⟩, fun e_ => e_.elim (fun h_ => hk.1.2 h_) (fun h_ => hk.2 h_)⟩))); (case aS => exact (below_size (by repeat (((with_reducible (exact HB.out))))))); (case aL => have := qam.out; omega); intro qbf w29 ho hb hg hat; rw [← qal.out] at ho; have n0_ := Aside0.mk (blk_grown (g := qc) (o := .cells #[.bool a0_0, .slice A0_1 l0_1.length c0_1, .slice A0_2 l0_2.length c0_2] 25 (0, 0)) (by exact qb.out) hg (Kd.S_away HO_3.out (fun _ hk => hk.1.1.1.1))); have n1_ := Aside0.mk (Kd.R_over' (by exact qd.out) (Kd.S_typed (by exact HO_3.out)) (by decide) hg); have n2_ := Aside0.mk (Kd.R_over' (by exact qe.out) (Kd.S_typed (by exact HO_3.out)) (by decide) hg); have n3_ := Aside0.mk (hb); have n4_ := Aside0.mk (ho); clear qb; clear qd; clear qe; clear HB; clear HO_3; clear qp; clear qs; have qb := n0_; have qd := n1_; have qe := n2_; have HB := n3_; have qao := n4_; clear n0_ n1_ n2_ n3_ n4_; clear ho hb hg hat))
        repeat (go_quiet (fail); try go_wp2_with (fail))
        go_roundg k1
        case measure => have := HK1.out; omega
        case rel => exact ⟨(qac), (x6_1), (wrap64 (x6_1 + 1)), (by (rfl)), (by (rfl)), H', ⟨by have := HK1.out; omega⟩, ⟨by exact Kd.S_mono qao.out (fun _ hk => hk.2.2)⟩, ⟨by exact qb.out⟩, ⟨by repeat (((with_reducible (exact HB.out))))⟩⟩
       ·rw [if_neg c21] at H
        exact absurd H (by simp)
      ·rw [if_neg c19] at H
       have c19b0 : decide (1007 < qi) = false := decide_eq_false c19
       clear c19
       have H' := Aside0.mk H
       clear H
       have hcz32_0 : wr.cell? ⟨qc, 0, none⟩ = some (.bool a0_0) := (blk_cell qb.out 0).trans rfl
       have hcz32_1 : wr.cell? ⟨qc, 1, none⟩ = some (.slice A0_1 l0_1.length c0_1) := (blk_cell qb.out 1).trans rfl
       have hcz32_2 : wr.cell? ⟨qc, 2, none⟩ = some (.slice A0_2 l0_2.length c0_2) := (blk_cell qb.out 2).trans rfl
       have hfz32_0 := blk_frozen qb.out 0
       have hfz32_1 := blk_frozen qb.out 1
       have hfz32_2 := blk_frozen qb.out 2
       go_wp2_with (first | (go_at_call 34; (with_reducible refine (node_part.calls a0_0 _ _ l0_1 _ _ l0_2 x4_1 (wrap64 (x6_1 + 1)) qu qg qf _ ?side1 ?side2 ?side3 ?side4 A17.out).mono ?_); (case side1 => repeat ((exact (Kd.C_below HR0_1.out HB.out)))); (case side2 => exact HC0_1.out); (case side3 => repeat ((exact (Kd.C_below HR0_2.out HB.out)))); (case side4 => exact HC0_2.out); rintro e w33 ⟨qaw, qba, rfl, ho0, ho1, hb⟩; have n0_ := Aside0.mk (Kd.S_mono (Kd.S_told (Kd.S_told (Kd.S_old (by exact HO_3.out) hb) (Kd.R_base ho0)) (Kd.R_base ho1)) (fun _ h_ => h_.1)); have n1_ := Aside0.mk (Kd.R_lower ho0 (below_size (by repeat (((with_reducible (exact HB.out))))))); have n2_ := Aside0.mk (Kd.R_lower ho1 (below_size (by repeat (((with_reducible (exact HB.out))))))); have n3_ := Aside0.mk (blk_below (g := qc) (o := .cells #[.bool a0_0, .slice A0_1 l0_1.length c0_1, .slice A0_2 l0_2.length c0_2] 25 (0, 0)) (by exact qb.out) hb); have n4_ := Aside0.mk (below_step (by repeat (((with_reducible (exact HB.out))))) hb); clear HO_3; clear qb; clear HB; have HO_3 := n0_; have qd := n1_; have qe := n2_; have qb := n3_; have HB := n4_; clear n0_ n1_ n2_ n3_ n4_; (try clear hb); (try clear hb2); (try clear hk); (try clear hi); (try clear ho0); (try clear ho1); obtain ⟨qbd, qbc, qaz⟩ := Kd.R_slice qd.out; subst qaz; obtain ⟨qbh, qbi, qau⟩ := Kd.R_slice qe.out; subst qau) | (go_at_call 15; (with_reducible refine (node_Size.calls qu _ _ qg _ _ qf qi _ ?side1 ?side2 ?side3 ?side4 A18.out).mono ?_); (case side1 => repeat ((exact (Kd.R_reads' qd.out).2.2))); (case side2 => exact (Kd.R_reads' qd.out).2.1); (case side3 => repeat ((exact (Kd.R_reads' qe.out).2.2))); (case side4 => exact (Kd.R_reads' qe.out).2.1); rintro e w36 ⟨rfl, hb⟩; have n0_ := Aside0.mk (Kd.S_below (by exact HO_3.out) hb); have n1_ := Aside0.mk (Kd.R_below (by exact qd.out) hb); have n2_ := Aside0.mk (Kd.R_below (by exact qe.out) hb); have n3_ := Aside0.mk (blk_below (g := qc) (o := .cells #[.bool a0_0, .slice A0_1 l0_1.length c0_1, .slice A0_2 l0_2.length c0_2] 25 (0, 0)) (by exact qb.out) hb); have n4_ := Aside0.mk (below_step (by repeat (((with_reducible (exact HB.out))))) hb); clear HO_3; clear qd; clear qe; clear qb; clear HB; have HO_3 := n0_; have qd := n1_; have qe := n2_; have qb := n3_; have HB := n4_; clear n0_ n1_ n2_ n3_ n4_; (try clear hb); (try clear hb2); (try clear hk); (try clear hi)))
       repeat (go_quiet (fail); try go_wp2_with (fail))
       go_roundg k1
       case measure => have := HK1.out; omega
       case rel => exact ⟨(x3_1), (x4_1), (wrap64 (x6_1 + 1)), (by (rfl)), (by (rfl)), H', ⟨by have := HK1.out; omega⟩, ⟨by exact Kd.S_mono HO_3.out (fun _ hk => hk.1.1)⟩, ⟨by exact qb.out⟩, ⟨by repeat (((with_reducible (exact HB.out))))⟩⟩
    ·rw [if_neg c8] at H
     have c8b0 : decide (x6_1 ≤ (wrap64 ((l0_1.length : Int) + (l0_2.length : Int)))) = false := decide_eq_false c8
     clear c8
     obtain rfl := Option.some.inj H
     go_wp2
     repeat (go_quiet (fail); try go_wp2)
     go_ret
     exact ⟨_, by (rfl), by exact Kd.S_mono HO_3.out (fun _ hk => trivial), by repeat (((with_reducible (exact HB.out))))⟩
 ·replace c3 := Bool.eq_false_iff.mpr c3
  subst c3
  have H1 : (some ([] : List (S25))) = some r := by rw [if_neg (show ¬ (false = true) by decide)] at H; exact H
  clear H
  have H := H1
  clear H1
  obtain rfl := Option.some.inj H
  go_enter Try.func19, Try.ntmps19
  go_wp2_with (first | ((with_reducible refine gate_dst (N := 1) rfl ?_); refine box_event ?hg (N := 1) ?hd (cs := #[.bool a0_0, .slice A0_1 l0_1.length c0_1, .slice A0_2 l0_2.length c0_2]) (t := 25) ?hr ?_; (case hd => rfl); (case hg => rfl); (case hr => ((go_simp; done))); intro qc hg w37 hbox hb; have n0_ := Aside0.mk (below_step (by repeat (((with_reducible (exact HB.out))))) hb); have n1_ := Aside0.mk (hbox); have n2_ := Aside0.mk ((by rw [hg]; exact (below_size (by repeat (((with_reducible (exact HB.out)))))) : w.heap.size ≤ qc)); have n3_ := Aside0.mk ((by rw [hg]; exact (below_size (by repeat (((with_reducible (exact HB.out)))))) : w.heap.size ≤ qc)); clear HB; have HB := n0_; have qb := n1_; have GW149 := n2_; have qaq := n3_; clear n0_ n1_ n2_ n3_; clear hb hbox hg; have hcz38_0 : w37.cell? ⟨qc, 0, none⟩ = some (.bool a0_0) := (blk_cell qb.out 0).trans rfl; have hcz38_1 : w37.cell? ⟨qc, 1, none⟩ = some (.slice A0_1 l0_1.length c0_1) := (blk_cell qb.out 1).trans rfl; have hcz38_2 : w37.cell? ⟨qc, 2, none⟩ = some (.slice A0_2 l0_2.length c0_2) := (blk_cell qb.out 2).trans rfl; have hfz38_0 := blk_frozen qb.out 0; have hfz38_1 := blk_frozen qb.out 1; have hfz38_2 := blk_frozen qb.out 2) | (go_at_call 29; (with_reducible refine (node_right.calls a0_0 _ _ l0_1 _ _ l0_2 false _ ?side1 ?side2 ?side3 ?side4 A2.out).mono ?_); (case side1 => repeat ((exact (Kd.C_below HR0_1.out HB.out)))); (case side2 => exact HC0_1.out); (case side3 => repeat ((exact (Kd.C_below HR0_2.out HB.out)))); (case side4 => exact HC0_2.out); rintro e w39 ⟨rfl, hb⟩; have n0_ := Aside0.mk (blk_below (g := qc) (o := .cells #[.bool a0_0, .slice A0_1 l0_1.length c0_1, .slice A0_2 l0_2.length c0_2] 25 (0, 0)) (by exact qb.out) hb); have n1_ := Aside0.mk (below_step (by repeat (((with_reducible (exact HB.out))))) hb); clear qb; clear HB; have qb := n0_; have HB := n1_; clear n0_ n1_; (try clear hb); (try clear hb2); (try clear hk); (try clear hi)))
  repeat (go_quiet (fail); try go_wp2_with (fail))
  go_ret
  exact ⟨_, by (rfl), by (exact Kd.S_nil _ _ _ _ _), by repeat (((with_reducible (exact HB.out))))⟩

end Go.Proofs.Ytdkbikaheagbfaa.PT
