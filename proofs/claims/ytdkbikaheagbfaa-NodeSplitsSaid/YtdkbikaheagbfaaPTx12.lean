-- WRITTEN BY a program of this session (pp.sh)
import Derived.Test.YtdkbikaheagbfaaPTx0
namespace Go.Proofs.Ytdkbikaheagbfaa.PT
open Go.RowKit Go.Proofs.YtdkbikaheagbfaaW.PrintWords Go.Proofs.YtdkbikaheagbfaaW.PrintLast Go.Proofs.YtdkbikaheagbfaaW.PrintMore Go.Proofs.Ytdkbikaheagbfaa.Plain
attribute [local go_sem] max2_int min2_int max_two min_two max_three min_three max_four min_four binOp_leq_s binOp_gtr_s binOp_geq_s lit_byte   -- for this text's walks alone
set_option linter.unusedVariables false
set_option linter.unusedSimpArgs false

/-! ### slices_Clone_Item: function 66, by hand -/
def slices_Clone_Item.f (l0 : List S44) : Option (List S44) := if l0.length < 4398046511104 then some l0 else none
set_option maxHeartbeats 8000000 in
set_option maxRecDepth 100000 in
theorem slices_Clone_Item.calls (A0 : Option Addr) (c0 : Nat) (l0 : List (S44)) (r : List (S44)) (w : World) (hr0 : Kd.C k44 w A0 l0.length l0) (hc0 : l0.length ≤ c0) (h : slices_Clone_Item.f l0 = some r) :
    Calls Try.prog 66 #[.slice A0 l0.length c0] w fun e w' => ∃ v0_ : Value, e = .returned (v0_) ∧ Kd.R k44 44 w' w.heap.size (fun _ => True) v0_ r ∧ Below w.heap.size w w' := by
  unfold slices_Clone_Item.f at h
  split at h
  case isFalse => cases h
  case isTrue hh =>
  obtain rfl := Option.some.inj h
  clear h
  have LM := Aside0.mk hh
  clear hh
  rcases A0 with _ | ad
  · have hl : l0 = [] := by
      rcases Nat.eq_zero_or_pos l0.length with h0 | h0
      · exact List.length_eq_zero_iff.mp h0
      · obtain ⟨ad, he, _⟩ := at_T44 hr0 0 (by omega) (by omega)
        cases he
    subst hl
    clear hr0 hc0
    have he : ∀ (w' : World) (n c : Nat), (binOp .eql 22 (.slice none n c) (.slice none 0 0)).run Try.prog w' = .ok (.bool true) w' := fun w' n c => Lib.run_eql_slice_nil w' _ _ none n c 0 0 Try.underlying22
    go_enter Try.func66, Try.ntmps66
    go_wp2
    go_ret
    exact ⟨_, rfl, Kd.R_nil _ _ _ _ _, Below.refl _ _⟩
  · have HR0 := Aside0.mk hr0
    have HB := Aside0.mk (Below.refl w.heap.size w)
    obtain ⟨y1, hy1⟩ : ∃ y_ : List (S44), y_ = [] := ⟨_, rfl⟩
    obtain ⟨y2, hy2⟩ : ∃ y_ : List (S44), y_ = y1 ++ l0 := ⟨_, rfl⟩
    have N1 := Aside0.mk hy1
    have N2 := Aside0.mk hy2
    have N3 := Aside0.mk (show y2 = l0 by rw [hy2, hy1, List.nil_append])
    clear hr0 hc0 hy1 hy2
    have he : ∀ (w' : World) (n c : Nat), (binOp .eql 22 (.slice (some ad) n c) (.slice none 0 0)).run Try.prog w' = .ok (.bool false) w' := fun w' n c => Lib.run_eql_slice_nil w' _ _ (some ad) n c 0 0 Try.underlying22
    go_enter Try.func66, Try.ntmps66
    go_wp2_with (first
      | ((with_reducible refine gate_dst (N := 5) rfl ?_); refine Kd.R_lit k44 _ 44 ?hg (N := 5) ?hd (xs := ([] : List (S44))) (inner := []) (ok := fun _ => True) (okp := fun _ => True) ?hr ?hp (fun _ hk => hk) trivial (Below.refl _ _) (Nat.le_refl _) (by simp) ?_; (case hd => rfl); (case hg => rfl); (case hr => ((go_simp; done))); (case hp => exact (Reps.none _ _)); intro v1 w3 ho4 hb hg_ hnew_; clear hg_ hnew_; rw [← N1.out] at ho4
         have HO := Aside0.mk (Kd.R_lower ho4 (below_size HB.out))
         have n1_ := Aside0.mk (below_step HB.out hb)
         clear HB
         have HB := n1_
         clear n1_ hb ho4)
      | ((with_reducible refine gate_builtin (b := .append) (xs := #[.tmp 5, .tmp 6]) rfl ?_); at_builtin; refine Kd.R_append_rows k44 (w0 := w) w.heap.size rfl (.tmp 5) (.tmp 6) 22 44 (.agg #[(.string ⟨#[]⟩), (.string ⟨#[]⟩)]) 32 rfl Try.underlying22 info44 rfl (by decide) (by omega) v1 y1 l0 _ _ _ (fun _ => True) (fun _ => False) rfl rfl ?aO ?aR (fun _ _ h => h) (fun _ h => h.elim) ?aF ?aB ?aS ?aL ?_
         case aR => exact (Kd.C_below HR0.out HB.out)
         case aB => exact HB.out
         case aF => exact (fun _ _ => trivial)
         case aO => exact HO.out
         case aS => exact (below_size HB.out)
         case aL => have h1 := LM.out; have h2 := N1.out; have h3 : y1.length = 0 := by rw [h2]; rfl
                    omega
         intro v2 w5 ho hb hg hat
         rw [← N2.out, N3.out] at ho
         have HO2 := Aside0.mk ho
         have HB2 := Aside0.mk hb
         clear ho hb hg hat HB HO))
    go_ret
    exact ⟨_, rfl, HO2.out, HB2.out⟩


/-! ### slices_Clone_Kid: function 67, by hand -/
def slices_Clone_Kid.f (l0 : List S46) : Option (List S46) := if l0.length < 5864062014805 then some l0 else none
set_option maxHeartbeats 8000000 in
set_option maxRecDepth 100000 in
theorem slices_Clone_Kid.calls (A0 : Option Addr) (c0 : Nat) (l0 : List (S46)) (r : List (S46)) (w : World) (hr0 : Kd.C k46 w A0 l0.length l0) (hc0 : l0.length ≤ c0) (h : slices_Clone_Kid.f l0 = some r) :
    Calls Try.prog 67 #[.slice A0 l0.length c0] w fun e w' => ∃ v0_ : Value, e = .returned (v0_) ∧ Kd.R k46 46 w' w.heap.size (fun _ => True) v0_ r ∧ Below w.heap.size w w' := by
  unfold slices_Clone_Kid.f at h
  split at h
  case isFalse => cases h
  case isTrue hh =>
  obtain rfl := Option.some.inj h
  clear h
  have LM := Aside0.mk hh
  clear hh
  rcases A0 with _ | ad
  · have hl : l0 = [] := by
      rcases Nat.eq_zero_or_pos l0.length with h0 | h0
      · exact List.length_eq_zero_iff.mp h0
      · obtain ⟨ad, he, _⟩ := at_T46 hr0 0 (by omega) (by omega)
        cases he
    subst hl
    clear hr0 hc0
    have he : ∀ (w' : World) (n c : Nat), (binOp .eql 23 (.slice none n c) (.slice none 0 0)).run Try.prog w' = .ok (.bool true) w' := fun w' n c => Lib.run_eql_slice_nil w' _ _ none n c 0 0 Try.underlying23
    go_enter Try.func67, Try.ntmps67
    go_wp2
    go_ret
    exact ⟨_, rfl, Kd.R_nil _ _ _ _ _, Below.refl _ _⟩
  · have HR0 := Aside0.mk hr0
    have HB := Aside0.mk (Below.refl w.heap.size w)
    obtain ⟨y1, hy1⟩ : ∃ y_ : List (S46), y_ = [] := ⟨_, rfl⟩
    obtain ⟨y2, hy2⟩ : ∃ y_ : List (S46), y_ = y1 ++ l0 := ⟨_, rfl⟩
    have N1 := Aside0.mk hy1
    have N2 := Aside0.mk hy2
    have N3 := Aside0.mk (show y2 = l0 by rw [hy2, hy1, List.nil_append])
    clear hr0 hc0 hy1 hy2
    have he : ∀ (w' : World) (n c : Nat), (binOp .eql 23 (.slice (some ad) n c) (.slice none 0 0)).run Try.prog w' = .ok (.bool false) w' := fun w' n c => Lib.run_eql_slice_nil w' _ _ (some ad) n c 0 0 Try.underlying23
    go_enter Try.func67, Try.ntmps67
    go_wp2_with (first
      | ((with_reducible refine gate_dst (N := 5) rfl ?_); refine Kd.R_lit k46 _ 46 ?hg (N := 5) ?hd (xs := ([] : List (S46))) (inner := []) (ok := fun _ => True) (okp := fun _ => True) ?hr ?hp (fun _ hk => hk) trivial (Below.refl _ _) (Nat.le_refl _) (by simp) ?_; (case hd => rfl); (case hg => rfl); (case hr => ((go_simp; done))); (case hp => exact (Reps.none _ _)); intro v1 w3 ho4 hb hg_ hnew_; clear hg_ hnew_; rw [← N1.out] at ho4
         have HO := Aside0.mk (Kd.R_lower ho4 (below_size HB.out))
         have n1_ := Aside0.mk (below_step HB.out hb)
         clear HB
         have HB := n1_
         clear n1_ hb ho4)
      | ((with_reducible refine gate_builtin (b := .append) (xs := #[.tmp 5, .tmp 6]) rfl ?_); at_builtin; refine Kd.R_append_rows k46 (w0 := w) w.heap.size rfl (.tmp 5) (.tmp 6) 23 46 (.agg #[(.string ⟨#[]⟩), (.int .i64 0)]) 24 rfl Try.underlying23 info46 rfl (by decide) (by omega) v1 y1 l0 _ _ _ (fun _ => True) (fun _ => False) rfl rfl ?aO ?aR (fun _ _ h => h) (fun _ h => h.elim) ?aF ?aB ?aS ?aL ?_
         case aR => exact (Kd.C_below HR0.out HB.out)
         case aB => exact HB.out
         case aF => exact (fun _ _ => trivial)
         case aO => exact HO.out
         case aS => exact (below_size HB.out)
         case aL => have h1 := LM.out; have h2 := N1.out; have h3 : y1.length = 0 := by rw [h2]; rfl
                    omega
         intro v2 w5 ho hb hg hat
         rw [← N2.out, N3.out] at ho
         have HO2 := Aside0.mk ho
         have HB2 := Aside0.mk hb
         clear ho hb hg hat HB HO))
    go_ret
    exact ⟨_, rfl, HO2.out, HB2.out⟩


/-! ### node_part: function 34 -/
def node_part.f (a0_0 : Bool) (l0_1 : List (S44)) (l0_2 : List (S46)) (a1 : Int) (a2 : Int) : Option (Bool × (List (S44)) × (List (S46))) := if a0_0 = true then (if 0 ≤ a1 then (if a1 ≤ a2 then (if a2 ≤ (l0_1.length : Int) then ((slices_Clone_Item.f ((l0_1.take (a2 : Int).toNat).drop (a1 : Int).toNat)).bind fun t139 => (some (true, t139, ([] : List (S46))))) else (none)) else (none)) else (none)) else (if 0 ≤ a1 then (if a1 ≤ a2 then (if a2 ≤ (l0_2.length : Int) then ((slices_Clone_Kid.f ((l0_2.take (a2 : Int).toNat).drop (a1 : Int).toNat)).bind fun t146 => (some (false, ([] : List (S44)), t146))) else (none)) else (none)) else (none))
set_option maxHeartbeats 8000000 in
set_option maxRecDepth 100000 in
theorem node_part.calls (a0_0 : Bool) (A0_1 : Option Addr) (c0_1 : Nat) (l0_1 : List (S44)) (A0_2 : Option Addr) (c0_2 : Nat) (l0_2 : List (S46)) (a1 : Int) (a2 : Int) (r1 : Bool) (r2 : List (S44)) (r3 : List (S46)) (w : World) (hr0_1 : Kd.C k44 w A0_1 l0_1.length l0_1) (hc0_1 : l0_1.length ≤ c0_1) (hr0_2 : Kd.C k46 w A0_2 l0_2.length l0_2) (hc0_2 : l0_2.length ≤ c0_2) (h : node_part.f a0_0 l0_1 l0_2 a1 a2 = some (r1, r2, r3)) :
    Calls Try.prog 34 #[.agg #[.bool a0_0, .slice A0_1 l0_1.length c0_1, .slice A0_2 l0_2.length c0_2], .int .i64 a1, .int .i64 a2] w fun e w' => ∃ v1_ v2_ : Value, e = .returned (.agg #[.bool r1, v1_, v2_]) ∧ Kd.R k44 44 w' w.heap.size (fun _ => True) v1_ r2 ∧ Kd.R k46 46 w' w.heap.size (fun _ => True) v2_ r3 ∧ Below w.heap.size w w' := by
  have hu25 := Try.underlying25
  have HR0_1 := Aside0.mk hr0_1
  have HC0_1 := Aside0.mk hc0_1
  clear hr0_1 hc0_1
  have HR0_2 := Aside0.mk hr0_2
  have HC0_2 := Aside0.mk hc0_2
  clear hr0_2 hc0_2
  have HB := Aside0.mk (Below.refl w.heap.size w)
  have H : (if a0_0 = true then (if 0 ≤ a1 then (if a1 ≤ a2 then (if a2 ≤ (l0_1.length : Int) then ((slices_Clone_Item.f ((l0_1.take (a2 : Int).toNat).drop (a1 : Int).toNat)).bind fun t139 => (some (true, t139, ([] : List (S46))))) else (none)) else (none)) else (none)) else (if 0 ≤ a1 then (if a1 ≤ a2 then (if a2 ≤ (l0_2.length : Int) then ((slices_Clone_Kid.f ((l0_2.take (a2 : Int).toNat).drop (a1 : Int).toNat)).bind fun t146 => (some (false, ([] : List (S44)), t146))) else (none)) else (none)) else (none))) = some (r1, r2, r3) := h
  clear h
  by_cases c4 : a0_0 = true
  · subst c4
    have H1 : (if 0 ≤ a1 then (if a1 ≤ a2 then (if a2 ≤ (l0_1.length : Int) then ((slices_Clone_Item.f ((l0_1.take (a2 : Int).toNat).drop (a1 : Int).toNat)).bind fun t139 => (some (true, t139, ([] : List (S46))))) else (none)) else (none)) else (none)) = some (r1, r2, r3) := by rw [if_pos rfl] at H; exact H
    clear H
    have H := H1
    clear H1
    by_cases c5 : 0 ≤ a1
    · rw [if_pos c5] at H
      have c5b0 := eq_true c5
      have c5b1 : decide (0 ≤ a1) = true := decide_eq_true c5
      clear c5
      by_cases c6 : a1 ≤ a2
      · rw [if_pos c6] at H
        have c6b0 := eq_true c6
        have c6b1 : decide (a1 ≤ a2) = true := decide_eq_true c6
        clear c6
        by_cases c7 : a2 ≤ (l0_1.length : Int)
        · rw [if_pos c7] at H
          have c7b0 := eq_true c7
          have c7b1 : decide (a2 ≤ (l0_1.length : Int)) = true := decide_eq_true c7
          clear c7
          obtain ⟨y135, hy135⟩ : ∃ y_ : List (S44), y_ = ((l0_1.take (a2 : Int).toNat).drop (a1 : Int).toNat) := ⟨_, rfl⟩
          replace H : ((slices_Clone_Item.f y135).bind fun t139 => (some (true, t139, ([] : List (S46))))) = some (r1, r2, r3) := by ((rw [hy135]; with_reducible exact H))
          have Ny135 := Aside0.mk hy135
          clear hy135
          replace H := Option.bind_eq_some_iff.mp H
          obtain ⟨t139, A80, H⟩ := H
          replace H : (some (true, t139, ([] : List (S46)))) = some (r1, r2, r3) := H
          have A8 := Aside0.mk A80
          clear A80
          simp only [Option.some.injEq, Prod.mk.injEq] at H
          obtain ⟨rfl, rfl, rfl⟩ := H
          go_enter Try.func34, Try.ntmps34
          go_wp2_with (first | ((with_reducible refine gate_dst (N := 3) rfl ?_); refine box_event ?hg (N := 3) ?hd (cs := #[.bool true, .slice A0_1 l0_1.length c0_1, .slice A0_2 l0_2.length c0_2]) (t := 25) ?hr ?_; (case hd => rfl); (case hg => rfl); (case hr => ((go_simp; done))); intro gb133 hg w9 hbox hb; have n0_ := Aside0.mk (below_step (by repeat (((with_reducible (exact HB.out))))) hb); have n1_ := Aside0.mk (hbox); have n2_ := Aside0.mk ((by rw [hg]; exact (below_size (by repeat (((with_reducible (exact HB.out)))))) : w.heap.size ≤ gb133)); have n3_ := Aside0.mk ((by rw [hg]; exact (below_size (by repeat (((with_reducible (exact HB.out)))))) : w.heap.size ≤ gb133)); clear HB; have HB := n0_; have BK133 := n1_; have GW133 := n2_; have GE133 := n3_; clear n0_ n1_ n2_ n3_; clear hb hbox hg) | ((with_reducible refine gate_dst (N := 6) rfl ?_); refine box_event ?hg (N := 6) ?hd (cs := #[.bool false, .slice none 0 0, .slice none 0 0]) (t := 25) ?hr ?_; (case hd => rfl); (case hg => rfl); (case hr => ((go_simp; done))); intro gb134 hg w10 hbox hb; have n0_ := Aside0.mk (blk_below (g := gb133) (o := .cells #[.bool true, .slice A0_1 l0_1.length c0_1, .slice A0_2 l0_2.length c0_2] 25 (0, 0)) (by (with_reducible repeat (fail)); exact BK133.out) hb); have n1_ := Aside0.mk (below_step (by repeat (((with_reducible (exact HB.out))))) hb); have n2_ := Aside0.mk (hbox); have n3_ := Aside0.mk ((by rw [hg]; exact (below_size (by repeat (((with_reducible (exact HB.out)))))) : w.heap.size ≤ gb134)); have n4_ := Aside0.mk ((by rw [hg]; exact (below_size (by repeat (((with_reducible (exact HB.out)))))) : w.heap.size ≤ gb134)); have n5_ := Aside0.mk ((by rw [hg]; exact Nat.ne_of_lt (blk_lt (g := gb133) (o := .cells #[.bool true, .slice A0_1 l0_1.length c0_1, .slice A0_2 l0_2.length c0_2] 25 (0, 0)) (by (with_reducible repeat (fail)); exact BK133.out)) : gb133 ≠ gb134)); have n6_ := Aside0.mk ((by rw [hg]; exact Nat.ne_of_gt (blk_lt (g := gb133) (o := .cells #[.bool true, .slice A0_1 l0_1.length c0_1, .slice A0_2 l0_2.length c0_2] 25 (0, 0)) (by (with_reducible repeat (fail)); exact BK133.out)) : gb134 ≠ gb133)); clear BK133; clear HB; have BK133 := n0_; have HB := n1_; have BK134 := n2_; have GW134 := n3_; have GE134 := n4_; have NB133_134 := n5_; have NB134_133 := n6_; clear n0_ n1_ n2_ n3_ n4_ n5_ n6_; clear hb hbox hg; have hnb11 := NB133_134.out; have hnc11 := NB134_133.out; have hcz12_0 : w10.cell? ⟨gb133, 0, none⟩ = some (.bool true) := (blk_cell BK133.out 0).trans rfl; have hcz12_1 : w10.cell? ⟨gb133, 1, none⟩ = some (.slice A0_1 l0_1.length c0_1) := (blk_cell BK133.out 1).trans rfl; have hcz12_2 : w10.cell? ⟨gb133, 2, none⟩ = some (.slice A0_2 l0_2.length c0_2) := (blk_cell BK133.out 2).trans rfl; have hfz12_0 := blk_frozen BK133.out 0; have hfz12_1 := blk_frozen BK133.out 1; have hfz12_2 := blk_frozen BK133.out 2; have q13 : (a2 : Int) ≤ ((l0_1.length : Int) : Int) := of_decide_eq_true (by ((with_reducible assumption))); obtain ⟨i013, hi013, _, hsz13, _⟩ := info_parts info44; have hroom13 : l0_1.length ≤ c0_1 := HC0_1.out; have hC13 : Kd.C k44 _ A0_1 l0_1.length l0_1 := HR0_1.out; have ql13 : (a1 : Int) ≤ (a2 : Int) := of_decide_eq_true (by ((with_reducible assumption))); have q013 : (0 : Int) ≤ (a1 : Int) := of_decide_eq_true (by ((with_reducible assumption))); have hcut13 := cut_mid (P := Try.prog) 22 44 .i64 .i64 Try.underlying22 hi013 2 hsz13 A0_1 l0_1.length c0_1 a1 a2 q013 ql13 q13 hroom13; have hr13 := Kd.C_mid (lo := (a1 : Int).toNat) (hi := (a2 : Int).toNat) (c := c0_1) hC13 (by omega) (by omega) hroom13; obtain ⟨A13, hA13⟩ : ∃ A1, A1 = (if c0_1 = (a1 : Int).toNat then A0_1 else (A0_1 : Option Addr).map (·.add ((a1 : Int).toNat * 2))) := ⟨_, rfl⟩; obtain ⟨c13, hc13⟩ : ∃ c1, c1 = c0_1 - (a1 : Int).toNat := ⟨_, rfl⟩; have hy13 : y135.length = (a2 : Int).toNat - (a1 : Int).toNat := (by rw [Ny135.out, List.length_drop, List.length_take] <;> omega); rw [show ((l0_1).take (a2 : Int).toNat).drop (a1 : Int).toNat = y135 from Ny135.out.symm] at hr13; replace hr13 : Kd.C k44 _ A13 y135.length y135 := (by rw [hA13]; exact hr13); rw [← hy13, ← hA13, ← hc13] at hcut13; have HR138 := Aside0.mk hr13; have HC138 := Aside0.mk (show y135.length ≤ c13 from by rw [hy13, hc13]; exact Nat.sub_le_sub_right (Nat.le_trans (by omega) hroom13) _); clear hr13 hC13 hroom13 hi013 hsz13 hc13; have KY13 := Aside0.mk hy13; have KA13 := Aside0.mk hA13; clear hy13 hA13; replace q13 := eq_true q13) | ((with_reducible refine gate_callee (f := 66) rfl ?_); refine goesL_ (some 14) rfl rfl Try.func66 (by kernel_rfl) rfl #[.slice A13 y135.length c13] rfl (by (try simp only [List.map_toArray, List.map_cons, List.map_nil]); (rfl)) ?_; (with_reducible refine (slices_Clone_Item.calls _ _ y135 t139 _ ?side1 ?side2 A8.out).mono ?_); (case side1 => repeat ((exact (Kd.C_below HR138.out HB.out)))); (case side2 => exact HC138.out); rintro e w14 ⟨v140, rfl, ho0, hb⟩; refine ⟨_, rfl, ?_⟩; have n0_ := Aside0.mk (Kd.R_lower ho0 (below_size (by repeat (((with_reducible (exact HB.out))))))); have n1_ := Aside0.mk (blk_below (g := gb133) (o := .cells #[.bool true, .slice A0_1 l0_1.length c0_1, .slice A0_2 l0_2.length c0_2] 25 (0, 0)) (by (with_reducible repeat (fail)); exact BK133.out) hb); have n2_ := Aside0.mk (blk_below (g := gb134) (o := .cells #[.bool false, .slice none 0 0, .slice none 0 0] 25 (0, 0)) (by (with_reducible repeat (fail)); exact BK134.out) hb); have n3_ := Aside0.mk (below_step (by repeat (((with_reducible (exact HB.out))))) hb); clear BK133; clear BK134; clear HB; have HO141 := n0_; have BK133 := n1_; have BK134 := n2_; have HB := n3_; clear n0_ n1_ n2_ n3_; (try clear hb); (try clear hb2); (try clear hk); (try clear hi); (try clear ho0); obtain ⟨Ao15, co15, eo15⟩ := Kd.R_slice HO141.out; subst eo15; have hcz16_0 : w14.cell? ⟨gb134, 0, none⟩ = some (.bool false) := (blk_cell BK134.out 0).trans rfl; have hcz16_1 : w14.cell? ⟨gb134, 1, none⟩ = some (.slice none 0 0) := (blk_cell BK134.out 1).trans rfl; have hcz16_2 : w14.cell? ⟨gb134, 2, none⟩ = some (.slice none 0 0) := (blk_cell BK134.out 2).trans rfl; have hfz16_0 := blk_frozen BK134.out 0; have hfz16_1 := blk_frozen BK134.out 1; have hfz16_2 := blk_frozen BK134.out 2))
          refine bodyPost_ret (results_cell_row rfl _ _ gb134 25 #[.bool true, .slice Ao15 t139.length co15, .slice none 0 0] (0, 0) _ rfl (by (with_reducible repeat (fail)); refine blk_put (cs := #[.bool true, .slice Ao15 t139.length co15, .slice none 0 0]) ?_ 2 _ rfl; (with_reducible repeat (fail)); refine blk_put (cs := #[.bool true, .slice none 0 0, .slice none 0 0]) ?_ 1 _ rfl; (with_reducible repeat (fail)); refine blk_put (cs := #[.bool false, .slice none 0 0, .slice none 0 0]) ?_ 0 _ rfl; (with_reducible repeat (fail)); exact BK134.out) Try.underlying25 rfl (by kernel_rfl)) rfl ?_
          exact ⟨_, _, by (rfl), by (with_reducible repeat (fail)); exact Kd.R_mono (Kd.R_far (p := ⟨gb134, 2, none⟩) (Kd.R_far (p := ⟨gb134, 1, none⟩) (Kd.R_far (p := ⟨gb134, 0, none⟩) (Kd.R_types HO141.out BK134.out (by decide)) (fun _ hk => hk.2) (.bool true)) (fun _ hk => hk.2) (.slice Ao15 t139.length co15)) (fun _ hk => hk.2) (.slice none 0 0)) (fun _ hk => trivial), by (exact Kd.R_nil _ _ _ _ _), by repeat (((with_reducible first | exact HB.out | refine below_set ?_ GE134.out)))⟩
        · rw [if_neg c7] at H
          exact absurd H (by simp)
      · rw [if_neg c6] at H
        exact absurd H (by simp)
    · rw [if_neg c5] at H
      exact absurd H (by simp)
  · replace c4 := Bool.eq_false_iff.mpr c4
    subst c4
    have H1 : (if 0 ≤ a1 then (if a1 ≤ a2 then (if a2 ≤ (l0_2.length : Int) then ((slices_Clone_Kid.f ((l0_2.take (a2 : Int).toNat).drop (a1 : Int).toNat)).bind fun t146 => (some (false, ([] : List (S44)), t146))) else (none)) else (none)) else (none)) = some (r1, r2, r3) := by rw [if_neg (show ¬ (false = true) by decide)] at H; exact H
    clear H
    have H := H1
    clear H1
    by_cases c17 : 0 ≤ a1
    · rw [if_pos c17] at H
      have c17b0 := eq_true c17
      have c17b1 : decide (0 ≤ a1) = true := decide_eq_true c17
      clear c17
      by_cases c18 : a1 ≤ a2
      · rw [if_pos c18] at H
        have c18b0 := eq_true c18
        have c18b1 : decide (a1 ≤ a2) = true := decide_eq_true c18
        clear c18
        by_cases c19 : a2 ≤ (l0_2.length : Int)
        · rw [if_pos c19] at H
          have c19b0 := eq_true c19
          have c19b1 : decide (a2 ≤ (l0_2.length : Int)) = true := decide_eq_true c19
          clear c19
          obtain ⟨y142, hy142⟩ : ∃ y_ : List (S46), y_ = ((l0_2.take (a2 : Int).toNat).drop (a1 : Int).toNat) := ⟨_, rfl⟩
          replace H : ((slices_Clone_Kid.f y142).bind fun t146 => (some (false, ([] : List (S44)), t146))) = some (r1, r2, r3) := by ((rw [hy142]; with_reducible exact H))
          have Ny142 := Aside0.mk hy142
          clear hy142
          replace H := Option.bind_eq_some_iff.mp H
          obtain ⟨t146, A200, H⟩ := H
          replace H : (some (false, ([] : List (S44)), t146)) = some (r1, r2, r3) := H
          have A20 := Aside0.mk A200
          clear A200
          simp only [Option.some.injEq, Prod.mk.injEq] at H
          obtain ⟨rfl, rfl, rfl⟩ := H
          go_enter Try.func34, Try.ntmps34
          go_wp2_with (first | ((with_reducible refine gate_dst (N := 3) rfl ?_); refine box_event ?hg (N := 3) ?hd (cs := #[.bool false, .slice A0_1 l0_1.length c0_1, .slice A0_2 l0_2.length c0_2]) (t := 25) ?hr ?_; (case hd => rfl); (case hg => rfl); (case hr => ((go_simp; done))); intro gb133 hg w21 hbox hb; have n0_ := Aside0.mk (below_step (by repeat (((with_reducible (exact HB.out))))) hb); have n1_ := Aside0.mk (hbox); have n2_ := Aside0.mk ((by rw [hg]; exact (below_size (by repeat (((with_reducible (exact HB.out)))))) : w.heap.size ≤ gb133)); have n3_ := Aside0.mk ((by rw [hg]; exact (below_size (by repeat (((with_reducible (exact HB.out)))))) : w.heap.size ≤ gb133)); clear HB; have HB := n0_; have BK133 := n1_; have GW133 := n2_; have GE133 := n3_; clear n0_ n1_ n2_ n3_; clear hb hbox hg) | ((with_reducible refine gate_dst (N := 6) rfl ?_); refine box_event ?hg (N := 6) ?hd (cs := #[.bool false, .slice none 0 0, .slice none 0 0]) (t := 25) ?hr ?_; (case hd => rfl); (case hg => rfl); (case hr => ((go_simp; done))); intro gb134 hg w22 hbox hb; have n0_ := Aside0.mk (blk_below (g := gb133) (o := .cells #[.bool false, .slice A0_1 l0_1.length c0_1, .slice A0_2 l0_2.length c0_2] 25 (0, 0)) (by (with_reducible repeat (fail)); exact BK133.out) hb); have n1_ := Aside0.mk (below_step (by repeat (((with_reducible (exact HB.out))))) hb); have n2_ := Aside0.mk (hbox); have n3_ := Aside0.mk ((by rw [hg]; exact (below_size (by repeat (((with_reducible (exact HB.out)))))) : w.heap.size ≤ gb134)); have n4_ := Aside0.mk ((by rw [hg]; exact (below_size (by repeat (((with_reducible (exact HB.out)))))) : w.heap.size ≤ gb134)); have n5_ := Aside0.mk ((by rw [hg]; exact Nat.ne_of_lt (blk_lt (g := gb133) (o := .cells #[.bool false, .slice A0_1 l0_1.length c0_1, .slice A0_2 l0_2.length c0_2] 25 (0, 0)) (by (with_reducible repeat (fail)); exact BK133.out)) : gb133 ≠ gb134)); have n6_ := Aside0.mk ((by rw [hg]; exact Nat.ne_of_gt (blk_lt (g := gb133) (o := .cells #[.bool false, .slice A0_1 l0_1.length c0_1, .slice A0_2 l0_2.length c0_2] 25 (0, 0)) (by (with_reducible repeat (fail)); exact BK133.out)) : gb134 ≠ gb133)); clear BK133; clear HB; have BK133 := n0_; have HB := n1_; have BK134 := n2_; have GW134 := n3_; have GE134 := n4_; have NB133_134 := n5_; have NB134_133 := n6_; clear n0_ n1_ n2_ n3_ n4_ n5_ n6_; clear hb hbox hg; have hnb23 := NB133_134.out; have hnc23 := NB134_133.out; have hcz24_0 : w22.cell? ⟨gb133, 0, none⟩ = some (.bool false) := (blk_cell BK133.out 0).trans rfl; have hcz24_1 : w22.cell? ⟨gb133, 1, none⟩ = some (.slice A0_1 l0_1.length c0_1) := (blk_cell BK133.out 1).trans rfl; have hcz24_2 : w22.cell? ⟨gb133, 2, none⟩ = some (.slice A0_2 l0_2.length c0_2) := (blk_cell BK133.out 2).trans rfl; have hfz24_0 := blk_frozen BK133.out 0; have hfz24_1 := blk_frozen BK133.out 1; have hfz24_2 := blk_frozen BK133.out 2; have q25 : (a2 : Int) ≤ ((l0_2.length : Int) : Int) := of_decide_eq_true (by ((with_reducible assumption))); obtain ⟨i025, hi025, _, hsz25, _⟩ := info_parts info46; have hroom25 : l0_2.length ≤ c0_2 := HC0_2.out; have hC25 : Kd.C k46 _ A0_2 l0_2.length l0_2 := HR0_2.out; have ql25 : (a1 : Int) ≤ (a2 : Int) := of_decide_eq_true (by ((with_reducible assumption))); have q025 : (0 : Int) ≤ (a1 : Int) := of_decide_eq_true (by ((with_reducible assumption))); have hcut25 := cut_mid (P := Try.prog) 23 46 .i64 .i64 Try.underlying23 hi025 2 hsz25 A0_2 l0_2.length c0_2 a1 a2 q025 ql25 q25 hroom25; have hr25 := Kd.C_mid (lo := (a1 : Int).toNat) (hi := (a2 : Int).toNat) (c := c0_2) hC25 (by omega) (by omega) hroom25; obtain ⟨A25, hA25⟩ : ∃ A1, A1 = (if c0_2 = (a1 : Int).toNat then A0_2 else (A0_2 : Option Addr).map (·.add ((a1 : Int).toNat * 2))) := ⟨_, rfl⟩; obtain ⟨c25, hc25⟩ : ∃ c1, c1 = c0_2 - (a1 : Int).toNat := ⟨_, rfl⟩; have hy25 : y142.length = (a2 : Int).toNat - (a1 : Int).toNat := (by rw [Ny142.out, List.length_drop, List.length_take] <;> omega); rw [show ((l0_2).take (a2 : Int).toNat).drop (a1 : Int).toNat = y142 from Ny142.out.symm] at hr25; replace hr25 : Kd.C k46 _ A25 y142.length y142 := (by rw [hA25]; exact hr25); rw [← hy25, ← hA25, ← hc25] at hcut25; have HR145 := Aside0.mk hr25; have HC145 := Aside0.mk (show y142.length ≤ c25 from by rw [hy25, hc25]; exact Nat.sub_le_sub_right (Nat.le_trans (by omega) hroom25) _); clear hr25 hC25 hroom25 hi025 hsz25 hc25; have KY25 := Aside0.mk hy25; have KA25 := Aside0.mk hA25; clear hy25 hA25; replace q25 := eq_true q25) | ((with_reducible refine gate_callee (f := 67) rfl ?_); refine goesL_ (some 21) rfl rfl Try.func67 (by kernel_rfl) rfl #[.slice A25 y142.length c25] rfl (by (try simp only [List.map_toArray, List.map_cons, List.map_nil]); (rfl)) ?_; (with_reducible refine (slices_Clone_Kid.calls _ _ y142 t146 _ ?side1 ?side2 A20.out).mono ?_); (case side1 => repeat ((exact (Kd.C_below HR145.out HB.out)))); (case side2 => exact HC145.out); rintro e w26 ⟨v147, rfl, ho0, hb⟩; refine ⟨_, rfl, ?_⟩; have n0_ := Aside0.mk (Kd.R_lower ho0 (below_size (by repeat (((with_reducible (exact HB.out))))))); have n1_ := Aside0.mk (blk_below (g := gb133) (o := .cells #[.bool false, .slice A0_1 l0_1.length c0_1, .slice A0_2 l0_2.length c0_2] 25 (0, 0)) (by (with_reducible repeat (fail)); exact BK133.out) hb); have n2_ := Aside0.mk (blk_below (g := gb134) (o := .cells #[.bool false, .slice none 0 0, .slice none 0 0] 25 (0, 0)) (by (with_reducible repeat (fail)); exact BK134.out) hb); have n3_ := Aside0.mk (below_step (by repeat (((with_reducible (exact HB.out))))) hb); clear BK133; clear BK134; clear HB; have HO148 := n0_; have BK133 := n1_; have BK134 := n2_; have HB := n3_; clear n0_ n1_ n2_ n3_; (try clear hb); (try clear hb2); (try clear hk); (try clear hi); (try clear ho0); obtain ⟨Ao27, co27, eo27⟩ := Kd.R_slice HO148.out; subst eo27; have hcz28_0 : w26.cell? ⟨gb134, 0, none⟩ = some (.bool false) := (blk_cell BK134.out 0).trans rfl; have hcz28_1 : w26.cell? ⟨gb134, 1, none⟩ = some (.slice none 0 0) := (blk_cell BK134.out 1).trans rfl; have hcz28_2 : w26.cell? ⟨gb134, 2, none⟩ = some (.slice none 0 0) := (blk_cell BK134.out 2).trans rfl; have hfz28_0 := blk_frozen BK134.out 0; have hfz28_1 := blk_frozen BK134.out 1; have hfz28_2 := blk_frozen BK134.out 2))
          refine bodyPost_ret (results_cell_row rfl _ _ gb134 25 #[.bool false, .slice none 0 0, .slice Ao27 t146.length co27] (0, 0) _ rfl (by (with_reducible repeat (fail)); refine blk_put (cs := #[.bool false, .slice none 0 0, .slice none 0 0]) ?_ 2 _ rfl; (with_reducible repeat (fail)); refine blk_put (cs := #[.bool false, .slice none 0 0, .slice none 0 0]) ?_ 1 _ rfl; (with_reducible repeat (fail)); refine blk_put (cs := #[.bool false, .slice none 0 0, .slice none 0 0]) ?_ 0 _ rfl; (with_reducible repeat (fail)); exact BK134.out) Try.underlying25 rfl (by kernel_rfl)) rfl ?_
          exact ⟨_, _, by (rfl), by (exact Kd.R_nil _ _ _ _ _), by (with_reducible repeat (fail)); exact Kd.R_mono (Kd.R_far (p := ⟨gb134, 2, none⟩) (Kd.R_far (p := ⟨gb134, 1, none⟩) (Kd.R_far (p := ⟨gb134, 0, none⟩) (Kd.R_types HO148.out BK134.out (by decide)) (fun _ hk => hk.2) (.bool false)) (fun _ hk => hk.2) (.slice none 0 0)) (fun _ hk => hk.2) (.slice Ao27 t146.length co27)) (fun _ hk => trivial), by repeat (((with_reducible first | exact HB.out | refine below_set ?_ GE134.out)))⟩
        · rw [if_neg c19] at H
          exact absurd H (by simp)
      · rw [if_neg c18] at H
        exact absurd H (by simp)
    · rw [if_neg c17] at H
      exact absurd H (by simp)

end Go.Proofs.Ytdkbikaheagbfaa.PT
