-- WRITTEN BY a program of this session (pp.sh)
import Derived.Test.YtcocddpknkklhaaPAx0
import Derived.Test.YtcocddpknkklhaaPAx3
namespace Go.Proofs.Ytcocddpknkklhaa.PA
open Go.RowKit Go.Proofs.YtcocddpknkklhaaW.PrintWords Go.Proofs.YtcocddpknkklhaaW.PrintLast Go.Proofs.YtcocddpknkklhaaW.PrintMore Go.Proofs.Ytcocddpknkklhaa.Plain
attribute [local go_sem] max2_int min2_int max_two min_two max_three min_three max_four min_four binOp_leq_s binOp_gtr_s binOp_geq_s lit_byte   -- for this text's walks alone
set_option linter.unusedVariables false
set_option linter.unusedSimpArgs false

/-! ### delta_changeKey: function 37, by hand -/
theorem delta_rises.key_change (x : S61) (w : World) : Calls Try.prog 37 #[.agg #[.string x.f0, .bool x.f1, .bool x.f2, .string x.f3, .string x.f4]] w fun e w' => e = .returned (.string x.f0) ∧ Below w.heap.size w w' := by
  have hb : Below w.heap.size w (w.alloc (.cells #[.string x.f0, .bool x.f1, .bool x.f2, .string x.f3, .string x.f4] 61)) := (Below.refl _ w).alloc (Nat.le_refl _) _
  have HB := Aside0.mk hb
  clear hb
  go_enter Try.func37, Try.ntmps37
  go_wp2
  go_ret
  exact ⟨rfl, HB.out⟩
/-- Two elements in variables of the call's own, the key's function in a captured one. -/
structure delta_rises.K_change (w W : World) (B : Nat) (x y : S61) : Prop where
  hx : W.heap[w.heap.size]? = some (.cells #[.string x.f0, .bool x.f1, .bool x.f2, .string x.f3, .string x.f4] 61 (0, 0))
  hy : W.heap[w.heap.size + 1]? = some (.cells #[.string y.f0, .bool y.f1, .bool y.f2, .string y.f3, .string y.f4] 61 (0, 0))
  hf : W.cell? ⟨B, 0, none⟩ = some (.func (.func 37) #[] #[])
  hB : Below w.heap.size w W
theorem delta_rises.K_change.step {w W W' : World} {B : Nat} {x y : S61} (h : delta_rises.K_change w W B x y) (hb : Below W.heap.size W W') : delta_rises.K_change w W' B x y :=
  ⟨blk_below h.hx hb, blk_below h.hy hb, (hb.cell (World.block_lt_of_cell? W _ h.hf)).trans h.hf, below_step h.hB hb⟩
theorem delta_rises.K_change.drew {w W : World} {B : Nat} {x y : S61} (h : delta_rises.K_change w W B x y) : delta_rises.K_change w W.drew B x y :=
  ⟨h.hx, h.hy, h.hf, h.hB.drew⟩
theorem delta_rises.K_change.start {w : World} {B : Nat} (x y : S61) (hB : w.cell? ⟨B, 0, none⟩ = some (.func (.func 37) #[] #[])) : delta_rises.K_change w ((w.alloc (.cells #[.string x.f0, .bool x.f1, .bool x.f2, .string x.f3, .string x.f4] 61)).alloc (.cells #[.string y.f0, .bool y.f1, .bool y.f2, .string y.f3, .string y.f4] 61)) B x y := by
  have h1 : Below w.heap.size w ((w.alloc (.cells #[.string x.f0, .bool x.f1, .bool x.f2, .string x.f3, .string x.f4] 61)).alloc (.cells #[.string y.f0, .bool y.f1, .bool y.f2, .string y.f3, .string y.f4] 61)) := ((Below.refl _ w).alloc (Nat.le_refl _) _).alloc (by simp) _
  have hs : (w.alloc (.cells #[.string x.f0, .bool x.f1, .bool x.f2, .string x.f3, .string x.f4] 61)).heap.size = w.heap.size + 1 := Array.size_push ..
  refine ⟨?_, ?_, (h1.cell (World.block_lt_of_cell? w _ hB)).trans hB, h1⟩
  · exact blk_alloc (blk_new w _) _
  · have := blk_new (w.alloc (.cells #[.string x.f0, .bool x.f1, .bool x.f2, .string x.f3, .string x.f4] 61)) (.cells #[.string y.f0, .bool y.f1, .bool y.f2, .string y.f3, .string y.f4] 61)
    rw [hs] at this
    exact this
set_option maxHeartbeats 4000000 in
set_option maxRecDepth 100000 in
theorem delta_rises.cmp_change (B : Nat) (x y : S61) (w : World) (hB : w.cell? ⟨B, 0, none⟩ = some (.func (.func 37) #[] #[])) :
    Calls Try.prog 64 #[.agg #[.string x.f0, .bool x.f1, .bool x.f2, .string x.f3, .string x.f4], .agg #[.string y.f0, .bool y.f1, .bool y.f2, .string y.f3, .string y.f4], .pointer (some ⟨B, 0, none⟩)] w fun e w' => e = .returned (.int .i64 (Lib.compareBytes x.f0.data.toList y.f0.data.toList)) ∧ Below w.heap.size w w' := by
  have k0 := Aside0.mk (delta_rises.K_change.start x y hB)
  have eg := enters_of (P := Try.prog) Try.func37 (by kernel_rfl) rfl
  clear hB
  go_enter Try.func64, Try.ntmps64
  go_upto_region 1 with (fail)
  generalize (w.alloc (.cells #[.string x.f0, .bool x.f1, .bool x.f2, .string x.f3, .string x.f4] 61)).alloc (.cells #[.string y.f0, .bool y.f1, .bool y.f2, .string y.f3, .string y.f4] 61) = w2 at k0 ⊢
  have kd := k0.out.drew
  go_region_held3 (fun W' => W'.cell? ⟨B, 0, none⟩ = some (.func (.func 37) #[] #[]) ∧ W'.cell? ⟨w.heap.size, 0, none⟩ = some (.string x.f0) ∧ W'.cell? ⟨w.heap.size, 1, none⟩ = some (.bool x.f1) ∧ W'.cell? ⟨w.heap.size, 2, none⟩ = some (.bool x.f2) ∧ W'.cell? ⟨w.heap.size, 3, none⟩ = some (.string x.f3) ∧ W'.cell? ⟨w.heap.size, 4, none⟩ = some (.string x.f4) ∧ W'.cell? ⟨w.heap.size + 1, 0, none⟩ = some (.string y.f0) ∧ W'.cell? ⟨w.heap.size + 1, 1, none⟩ = some (.bool y.f1) ∧ W'.cell? ⟨w.heap.size + 1, 2, none⟩ = some (.bool y.f2) ∧ W'.cell? ⟨w.heap.size + 1, 3, none⟩ = some (.string y.f3) ∧ W'.cell? ⟨w.heap.size + 1, 4, none⟩ = some (.string y.f4))
    (first | exact ⟨kc.hf, (blk_cell kc.hx 0).trans rfl, (blk_cell kc.hx 1).trans rfl, (blk_cell kc.hx 2).trans rfl, (blk_cell kc.hx 3).trans rfl, (blk_cell kc.hx 4).trans rfl, (blk_cell kc.hy 0).trans rfl, (blk_cell kc.hy 1).trans rfl, (blk_cell kc.hy 2).trans rfl, (blk_cell kc.hy 3).trans rfl, (blk_cell kc.hy 4).trans rfl⟩ | exact ⟨kb.hf, (blk_cell kb.hx 0).trans rfl, (blk_cell kb.hx 1).trans rfl, (blk_cell kb.hx 2).trans rfl, (blk_cell kb.hx 3).trans rfl, (blk_cell kb.hx 4).trans rfl, (blk_cell kb.hy 0).trans rfl, (blk_cell kb.hy 1).trans rfl, (blk_cell kb.hy 2).trans rfl, (blk_cell kb.hy 3).trans rfl, (blk_cell kb.hy 4).trans rfl⟩ | exact ⟨ka.hf, (blk_cell ka.hx 0).trans rfl, (blk_cell ka.hx 1).trans rfl, (blk_cell ka.hx 2).trans rfl, (blk_cell ka.hx 3).trans rfl, (blk_cell ka.hx 4).trans rfl, (blk_cell ka.hy 0).trans rfl, (blk_cell ka.hy 1).trans rfl, (blk_cell ka.hy 2).trans rfl, (blk_cell ka.hy 3).trans rfl, (blk_cell ka.hy 4).trans rfl⟩ | exact ⟨kd.hf, (blk_cell kd.hx 0).trans rfl, (blk_cell kd.hx 1).trans rfl, (blk_cell kd.hx 2).trans rfl, (blk_cell kd.hx 3).trans rfl, (blk_cell kd.hx 4).trans rfl, (blk_cell kd.hy 0).trans rfl, (blk_cell kd.hy 1).trans rfl, (blk_cell kd.hy 2).trans rfl, (blk_cell kd.hy 3).trans rfl, (blk_cell kd.hy 4).trans rfl⟩)
    (first
      | (go_at_call 37; (with_reducible refine (delta_rises.key_change x _).mono ?_); rintro e wa ⟨rfl, hb⟩; have ka := kd.step hb; clear hb)
      | (go_at_call 37; (with_reducible refine (delta_rises.key_change y _).mono ?_); rintro e wb ⟨rfl, hb⟩; have kb := (by first | exact ka.step hb | exact kd.step hb); clear hb)
      | (go_at_call 59; (with_reducible refine (Try.strings_Compare x.f0 y.f0 _).mono ?_); rintro e wc ⟨rfl, rfl⟩))
  all_goals
    go_wp2
    go_ret
    exact ⟨rfl, by first | exact kc.hB | exact kb.hB | exact ka.hB⟩
set_option maxHeartbeats 4000000 in
set_option maxRecDepth 100000 in
theorem delta_rises.eq_change (B : Nat) (x y : S61) (w : World) (hB : w.cell? ⟨B, 0, none⟩ = some (.func (.func 37) #[] #[])) :
    Calls Try.prog 66 #[.agg #[.string x.f0, .bool x.f1, .bool x.f2, .string x.f3, .string x.f4], .agg #[.string y.f0, .bool y.f1, .bool y.f2, .string y.f3, .string y.f4], .pointer (some ⟨B, 0, none⟩)] w fun e w' => e = .returned (.bool (x.f0.toList == y.f0.toList)) ∧ Below w.heap.size w w' := by
  have k0 := Aside0.mk (delta_rises.K_change.start x y hB)
  have eg := enters_of (P := Try.prog) Try.func37 (by kernel_rfl) rfl
  clear hB
  go_enter Try.func66, Try.ntmps66
  go_upto_region 1 with (fail)
  generalize (w.alloc (.cells #[.string x.f0, .bool x.f1, .bool x.f2, .string x.f3, .string x.f4] 61)).alloc (.cells #[.string y.f0, .bool y.f1, .bool y.f2, .string y.f3, .string y.f4] 61) = w2 at k0 ⊢
  have kd := k0.out.drew
  go_region_held3 (fun W' => W'.cell? ⟨B, 0, none⟩ = some (.func (.func 37) #[] #[]) ∧ W'.cell? ⟨w.heap.size, 0, none⟩ = some (.string x.f0) ∧ W'.cell? ⟨w.heap.size, 1, none⟩ = some (.bool x.f1) ∧ W'.cell? ⟨w.heap.size, 2, none⟩ = some (.bool x.f2) ∧ W'.cell? ⟨w.heap.size, 3, none⟩ = some (.string x.f3) ∧ W'.cell? ⟨w.heap.size, 4, none⟩ = some (.string x.f4) ∧ W'.cell? ⟨w.heap.size + 1, 0, none⟩ = some (.string y.f0) ∧ W'.cell? ⟨w.heap.size + 1, 1, none⟩ = some (.bool y.f1) ∧ W'.cell? ⟨w.heap.size + 1, 2, none⟩ = some (.bool y.f2) ∧ W'.cell? ⟨w.heap.size + 1, 3, none⟩ = some (.string y.f3) ∧ W'.cell? ⟨w.heap.size + 1, 4, none⟩ = some (.string y.f4))
    (first | exact ⟨kc.hf, (blk_cell kc.hx 0).trans rfl, (blk_cell kc.hx 1).trans rfl, (blk_cell kc.hx 2).trans rfl, (blk_cell kc.hx 3).trans rfl, (blk_cell kc.hx 4).trans rfl, (blk_cell kc.hy 0).trans rfl, (blk_cell kc.hy 1).trans rfl, (blk_cell kc.hy 2).trans rfl, (blk_cell kc.hy 3).trans rfl, (blk_cell kc.hy 4).trans rfl⟩ | exact ⟨kb.hf, (blk_cell kb.hx 0).trans rfl, (blk_cell kb.hx 1).trans rfl, (blk_cell kb.hx 2).trans rfl, (blk_cell kb.hx 3).trans rfl, (blk_cell kb.hx 4).trans rfl, (blk_cell kb.hy 0).trans rfl, (blk_cell kb.hy 1).trans rfl, (blk_cell kb.hy 2).trans rfl, (blk_cell kb.hy 3).trans rfl, (blk_cell kb.hy 4).trans rfl⟩ | exact ⟨ka.hf, (blk_cell ka.hx 0).trans rfl, (blk_cell ka.hx 1).trans rfl, (blk_cell ka.hx 2).trans rfl, (blk_cell ka.hx 3).trans rfl, (blk_cell ka.hx 4).trans rfl, (blk_cell ka.hy 0).trans rfl, (blk_cell ka.hy 1).trans rfl, (blk_cell ka.hy 2).trans rfl, (blk_cell ka.hy 3).trans rfl, (blk_cell ka.hy 4).trans rfl⟩ | exact ⟨kd.hf, (blk_cell kd.hx 0).trans rfl, (blk_cell kd.hx 1).trans rfl, (blk_cell kd.hx 2).trans rfl, (blk_cell kd.hx 3).trans rfl, (blk_cell kd.hx 4).trans rfl, (blk_cell kd.hy 0).trans rfl, (blk_cell kd.hy 1).trans rfl, (blk_cell kd.hy 2).trans rfl, (blk_cell kd.hy 3).trans rfl, (blk_cell kd.hy 4).trans rfl⟩)
    (first
      | (go_at_call 37; (with_reducible refine (delta_rises.key_change x _).mono ?_); rintro e wa ⟨rfl, hb⟩; have ka := kd.step hb; clear hb)
      | (go_at_call 37; (with_reducible refine (delta_rises.key_change y _).mono ?_); rintro e wb ⟨rfl, hb⟩; have kb := (by first | exact ka.step hb | exact kd.step hb); clear hb))
  all_goals
    go_wp2
    go_ret
    exact ⟨rfl, by first | exact kc.hB | exact kb.hB | exact ka.hB⟩
/-- Each key is not below the one ahead. -/
def delta_rises.sortB_change : List S61 → Bool
  | a :: b :: r => !decide (Lib.compareBytes b.f0.data.toList a.f0.data.toList < 0) && delta_rises.sortB_change (b :: r)
  | _ => true
theorem delta_rises.drop_change (l : List S61) (j : Nat) (hj : j < l.length) : l.drop j = rd_T61 l (j : Int) :: l.drop (j + 1) := by
  rw [List.drop_eq_getElem_cons hj]
  unfold rd_T61
  rw [Int.toNat_natCast, List.getD_eq_getElem?_getD, List.getElem?_eq_getElem hj]; rfl
theorem delta_rises.sort_at_change (l : List S61) (j : Nat) (hj : j + 1 < l.length) :
    delta_rises.sortB_change (l.drop j) = (!decide (Lib.compareBytes (rd_T61 l ((j + 1 : Nat) : Int)).f0.data.toList (rd_T61 l (j : Int)).f0.data.toList < 0) && delta_rises.sortB_change (l.drop (j + 1))) := by
  rw [delta_rises.drop_change l j (by omega), delta_rises.drop_change l (j + 1) hj]
  rfl
theorem delta_rises.sort_no_change : ∀ (j : Nat) (l : List S61), delta_rises.sortB_change (l.drop j) = false → delta_rises.sortB_change l = false
  | 0, _, h => h
  | _ + 1, [], h => by cases h
  | j + 1, [a], h => by rw [List.drop_succ_cons, List.drop_nil] at h; cases h
  | j + 1, a :: b :: r, h => by
    have := delta_rises.sort_no_change j (b :: r) h
    show (_ && delta_rises.sortB_change (b :: r)) = false
    rw [this, Bool.and_false]
set_option maxHeartbeats 8000000 in
set_option maxRecDepth 100000 in
theorem delta_rises.sorted_change (B : Nat) (A0 : Option Addr) (c0 : Nat) (l0 : List S61) (w : World) (hB : w.cell? ⟨B, 0, none⟩ = some (.func (.func 37) #[] #[])) (hr0 : Kd.C k61 w A0 l0.length l0) (hl : l0.length ≤ 9223372036854775000) :
    Calls Try.prog 63 #[.slice A0 l0.length c0, .func (.func 64) #[] #[.pointer (some ⟨B, 0, none⟩)]] w fun e w' => e = .returned (.bool (delta_rises.sortB_change l0)) ∧ Below w.heap.size w w' := by
  have hu := Try.underlying61
  have HR0 := Aside0.mk hr0
  have HL := Aside0.mk hl
  have HF := Aside0.mk hB
  have HB := Aside0.mk (Below.refl w.heap.size w)
  obtain ⟨R, hR⟩ : ∃ R : Bool, delta_rises.sortB_change l0 = R := ⟨_, rfl⟩
  rw [hR]
  have HQ := Aside0.mk hR
  have eg := enters_of (P := Try.prog) Try.func64 (by kernel_rfl) rfl
  have dw : IntKind.i64.wrap ((l0.length : Int) - 1) = (l0.length : Int) - 1 := by rw [i64_w]; unfold wrap64; omega
  clear hr0 hl hB hR
  go_enter Try.func63, Try.ntmps63
  go_wp2
  clear dw
  go_loopg [5] (l0.length + 1) (fun kq v5 w' => ∃ i : Int, v5 = .int .i64 i ∧ Aside0 (-1 ≤ i ∧ i < l0.length ∧ i < kq) ∧ Aside0 (delta_rises.sortB_change (l0.drop i.toNat) = true) ∧ Aside0 (Below w.heap.size w w'))
  case atStart => exact ⟨(l0.length : Int) - 1, rfl, ⟨⟨by omega, by omega, by push_cast; omega⟩⟩, ⟨by
    rcases Nat.eq_zero_or_pos l0.length with h0 | h0
    · rw [List.length_eq_zero_iff.1 h0]; rfl
    · have h1 : ((l0.length : Int) - 1).toNat = l0.length - 1 := by omega
      rw [h1, delta_rises.drop_change l0 (l0.length - 1) (by omega), List.drop_of_length_le (by omega)]
      rfl⟩, HB⟩
  case round =>
    clear HB
    obtain ⟨i, rfl, HJ, HI, HB⟩ := hrel
    cases gk with
    | zero =>
      have hi : i = -1 := by have := HJ.out; omega
      subst hi
      have d0 : decide ((-1 : Int) > 0) = false := by decide
      go_wp2
      go_ret
      have h2 := HI.out
      have h3 : delta_rises.sortB_change l0 = true := h2
      exact ⟨ret_b (by rw [← HQ.out, h3]), HB.out⟩
    | succ k1 =>
      by_cases hi : 0 < i
      · obtain ⟨m, rfl⟩ : ∃ m : Nat, i = (m : Int) := ⟨i.toNat, by omega⟩
        obtain ⟨j, hm⟩ : ∃ j : Nat, m = j + 1 := ⟨m - 1, by omega⟩
        have hj : j + 1 < l0.length := by have := HJ.out; omega
        obtain ⟨ad, e, hx0, hx1, hx2, hx3, hx4⟩ := at_T61 HR0.out (m : Int) (by omega) (by omega)
        cases e
        obtain ⟨ad2, e2, hy0, hy1, hy2, hy3, hy4⟩ := at_T61 HR0.out (j : Int) (by omega) (by omega)
        obtain rfl := Option.some.inj e2
        clear e2
        rw [Int.toNat_natCast] at hx0 hx1 hx2 hx3 hx4 hy0 hy1 hy2 hy3 hy4
        have hW := HB.out
        replace hx0 := (hW.cell (World.block_lt_of_cell? w _ hx0)).trans hx0
        replace hx1 := (hW.cell (World.block_lt_of_cell? w _ hx1)).trans hx1
        replace hx2 := (hW.cell (World.block_lt_of_cell? w _ hx2)).trans hx2
        replace hx3 := (hW.cell (World.block_lt_of_cell? w _ hx3)).trans hx3
        replace hx4 := (hW.cell (World.block_lt_of_cell? w _ hx4)).trans hx4
        replace hy0 := (hW.cell (World.block_lt_of_cell? w _ hy0)).trans hy0
        replace hy1 := (hW.cell (World.block_lt_of_cell? w _ hy1)).trans hy1
        replace hy2 := (hW.cell (World.block_lt_of_cell? w _ hy2)).trans hy2
        replace hy3 := (hW.cell (World.block_lt_of_cell? w _ hy3)).trans hy3
        replace hy4 := (hW.cell (World.block_lt_of_cell? w _ hy4)).trans hy4
        have hF := (hW.cell (World.block_lt_of_cell? w _ HF.out)).trans HF.out
        have hst := delta_rises.sort_at_change l0 j hj
        rw [← hm] at hst
        rw [Int.toNat_natCast] at HI
        rw [HI.out, Bool.and_true] at hst
        have HS := Aside0.mk hst
        clear hst hW HI
        generalize rd_T61 l0 (m : Int) = x at *
        generalize rd_T61 l0 (j : Int) = y at *
        have HFF : Aside0 (wr.drew.cell? ⟨B, 0, none⟩ = some (.func (.func 37) #[] #[])) := ⟨hF⟩
        clear hF
        have b1 : (0 : Int) ≤ (m : Int) := by omega
        have b2 : (m : Int) < (l0.length : Int) := by omega
        have b3 : (0 : Int) ≤ (j : Int) := by omega
        have b4 : (j : Int) < (l0.length : Int) := by omega
        have d0 : decide ((m : Int) > 0) = true := decide_eq_true (by omega)
        have d3 : 0 < m := by omega
        have d2 : IntKind.i64.wrap ((m : Int) - 1) = (j : Int) := by have := HL.out; rw [i64_w]; unfold wrap64; omega
        have HM := Aside0.mk hm
        clear hm hi hj
        go_wp2
        go_region_held3 (fun W' => W'.cell? (ad.add (m * 5)) = some (.string x.f0) ∧ W'.cell? ⟨(ad.add (m * 5)).block, (ad.add (m * 5)).off + 1, none⟩ = some (.bool x.f1) ∧ W'.cell? ⟨(ad.add (m * 5)).block, (ad.add (m * 5)).off + 2, none⟩ = some (.bool x.f2) ∧ W'.cell? ⟨(ad.add (m * 5)).block, (ad.add (m * 5)).off + 3, none⟩ = some (.string x.f3) ∧ W'.cell? ⟨(ad.add (m * 5)).block, (ad.add (m * 5)).off + 4, none⟩ = some (.string x.f4) ∧ W'.cell? (ad.add (j * 5)) = some (.string y.f0) ∧ W'.cell? ⟨(ad.add (j * 5)).block, (ad.add (j * 5)).off + 1, none⟩ = some (.bool y.f1) ∧ W'.cell? ⟨(ad.add (j * 5)).block, (ad.add (j * 5)).off + 2, none⟩ = some (.bool y.f2) ∧ W'.cell? ⟨(ad.add (j * 5)).block, (ad.add (j * 5)).off + 3, none⟩ = some (.string y.f3) ∧ W'.cell? ⟨(ad.add (j * 5)).block, (ad.add (j * 5)).off + 4, none⟩ = some (.string y.f4))
          (first | exact ⟨(hb1.out.cell (World.block_lt_of_cell? _ _ hx0)).trans hx0, (hb1.out.cell (World.block_lt_of_cell? _ _ hx1)).trans hx1, (hb1.out.cell (World.block_lt_of_cell? _ _ hx2)).trans hx2, (hb1.out.cell (World.block_lt_of_cell? _ _ hx3)).trans hx3, (hb1.out.cell (World.block_lt_of_cell? _ _ hx4)).trans hx4, (hb1.out.cell (World.block_lt_of_cell? _ _ hy0)).trans hy0, (hb1.out.cell (World.block_lt_of_cell? _ _ hy1)).trans hy1, (hb1.out.cell (World.block_lt_of_cell? _ _ hy2)).trans hy2, (hb1.out.cell (World.block_lt_of_cell? _ _ hy3)).trans hy3, (hb1.out.cell (World.block_lt_of_cell? _ _ hy4)).trans hy4⟩ | exact ⟨hx0, hx1, hx2, hx3, hx4, hy0, hy1, hy2, hy3, hy4⟩)
          ((go_at_call 64; (with_reducible refine (delta_rises.cmp_change B x y _ HFF.out).mono ?_); rintro e wa ⟨rfl, hb1⟩; have hb1 := Aside0.mk hb1))
        obtain ⟨q, hq⟩ : ∃ q : Bool, decide (Lib.compareBytes x.f0.data.toList y.f0.data.toList < 0) = q := ⟨_, rfl⟩
        rw [hq] at HS
        cases q with
        | true =>
          have hp : Lib.compareBytes x.f0.data.toList y.f0.data.toList < 0 := of_decide_eq_true hq
          go_wp2
          go_ret
          exact ⟨ret_b (by rw [← HQ.out]; exact (delta_rises.sort_no_change j l0 HS.out).symm), below_step HB.out (below_then (below_drew1 (Below.refl _ wr)) (Nat.le_refl _) hb1.out)⟩
        | false =>
          have hp : ¬ Lib.compareBytes x.f0.data.toList y.f0.data.toList < 0 := of_decide_eq_false hq
          have hp2 : 0 ≤ Lib.compareBytes x.f0.data.toList y.f0.data.toList := Int.not_lt.1 hp
          go_wp2
          go_roundg k1
          case measure => omega
          case rel => exact ⟨(j : Int), by first | rfl | (simp [*]; done) | skip, ⟨by have := HJ.out; have := HM.out; omega⟩, ⟨by rw [Int.toNat_natCast]; exact HS.out⟩, ⟨below_step HB.out (below_then (below_drew1 (Below.refl _ wr)) (Nat.le_refl _) hb1.out)⟩⟩
      · have d0 : decide (i > 0) = false := decide_eq_false (by omega)
        have hi0 : i.toNat = 0 := by omega
        have h2 := HI.out
        rw [hi0, List.drop_zero] at h2
        have HS := Aside0.mk h2
        clear h2 hi0 hi
        go_wp2
        go_ret
        exact ⟨ret_b (by rw [← HQ.out, HS.out]), HB.out⟩
/-- No key stands twice side by side. -/
def delta_rises.neB_change : List S61 → Bool
  | a :: b :: r => !(b.f0.toList == a.f0.toList) && delta_rises.neB_change (b :: r)
  | _ => true
theorem delta_rises.ne_take_change : ∀ (j : Nat) (l : List S61), j + 1 < l.length → delta_rises.neB_change (l.take (j + 1)) = true → delta_rises.neB_change (l.take (j + 2)) = !((rd_T61 l ((j + 1 : Nat) : Int)).f0.toList == (rd_T61 l (j : Int)).f0.toList)
  | 0, a :: b :: r, _, _ => by
    show (!(b.f0.toList == a.f0.toList) && delta_rises.neB_change [b]) = _
    have : delta_rises.neB_change [b] = true := rfl
    rw [this, Bool.and_true]
    rfl
  | j + 1, a :: b :: r, hj, h => by
    have h2 : (!(b.f0.toList == a.f0.toList) && delta_rises.neB_change ((b :: r).take (j + 1))) = true := h
    rw [Bool.and_eq_true] at h2
    show (!(b.f0.toList == a.f0.toList) && delta_rises.neB_change ((b :: r).take (j + 2))) = _
    rw [h2.1, Bool.true_and, delta_rises.ne_take_change j (b :: r) (by simp at hj ⊢; omega) h2.2]
    unfold rd_T61
    simp only [Int.toNat_natCast]
    rfl
theorem delta_rises.addr_change (g j : Nat) : (⟨g, 0, none⟩ : Addr).add j = ⟨g, j, none⟩ := by
  by_cases h : j = 0
  · subst h; rfl
  · simp [Addr.add, h]
theorem delta_rises.below_sets_change {B g : Nat} {w0 : World} : ∀ (vs : List Value) (o : Nat) (W : World), Below B w0 W → B ≤ g → Below B w0 (W.setCells g o vs)
  | [], _, _, h, _ => h
  | v :: r, o, W, h, hg => delta_rises.below_sets_change r (o + 1) _ (h.setCell (p := ⟨g, o, none⟩) hg v) hg
theorem delta_rises.clear_change (w : World) (g o n c : Nat) (hn : 0 < n) (hc : ∀ j, j < n * 5 → (w.cell? ⟨g, o + j, none⟩).isSome = true) (hf : ∀ j, j < n * 5 → w.frozen? ⟨g, o + j, none⟩ = false) (ty : TypeId) :
    (Builtin.clear_ #[23] ty #[.slice (some ⟨g, o, none⟩) n c]).run Try.prog w = .ok (.tuple #[]) (w.setCells g o (Builtin.zeroCells (Value.cells (.agg #[.string ⟨#[]⟩, .bool false, .bool false, .string ⟨#[]⟩, .string ⟨#[]⟩])) n).toList) := by
  have hv : ∀ w : World, (zeroValue 61).run Try.prog w = .ok (.agg #[.string ⟨#[]⟩, .bool false, .bool false, .string ⟨#[]⟩, .string ⟨#[]⟩]) w := fun _ => by kernel_rfl
  have hlen : (Builtin.zeroCells (Value.cells (.agg #[.string ⟨#[]⟩, .bool false, .bool false, .string ⟨#[]⟩, .string ⟨#[]⟩])) n).toList.length = n * 5 := by simp [Builtin.zeroCells, Value.cells]
  have hone : ∀ v ∈ (Builtin.zeroCells (Value.cells (.agg #[.string ⟨#[]⟩, .bool false, .bool false, .string ⟨#[]⟩, .string ⟨#[]⟩])) n).toList, v.oneCell' = true := by
    intro v hv
    simp only [Builtin.zeroCells, Array.toList_map, List.mem_map] at hv
    obtain ⟨i, -, rfl⟩ := hv
    have hlt : i % 5 < 5 := Nat.mod_lt _ (by decide)
    show Value.oneCell' ((Value.cells (.agg #[.string ⟨#[]⟩, .bool false, .bool false, .string ⟨#[]⟩, .string ⟨#[]⟩]))[i % 5]!) = true
    match i % 5, hlt with
    | 0, _ => rfl
    | 1, _ => rfl
    | 2, _ => rfl
    | 3, _ => rfl
    | 4, _ => rfl
  have hst := run_storeCells_cells (P := Try.prog) g o (Builtin.zeroCells (Value.cells (.agg #[.string ⟨#[]⟩, .bool false, .bool false, .string ⟨#[]⟩, .string ⟨#[]⟩])) n).toList 0 w (by intro j hj; rw [Nat.add_zero]; exact hc j (by omega)) (by intro j hj; rw [Nat.add_zero]; exact hf j (by omega)) hone
  simp only [Nat.add_zero] at hst
  obtain ⟨m, rfl⟩ : ∃ m, n = m + 1 := ⟨n - 1, by omega⟩
  simp [Builtin.clear_, run_underlying Try.underlying23, hv, hst]
theorem delta_rises.some_change {w : World} {g n : Nat} {l : List S61} (h : Kd.C k61 w (some ⟨g, 0, none⟩) n l) (q : Nat) (hq : q < n * 5) : (w.cell? ⟨g, q, none⟩).isSome = true := by
  have hq2 : q / 5 < n := by omega
  obtain ⟨ad, c, e, _, hK, hc0⟩ := Kd.C_get h z61 ((q / 5 : Nat) : Int) (by omega) (by omega)
  obtain rfl := Option.some.inj e
  have hc : ∀ j u, c[j]? = some u → w.cell? ((⟨g, 0, none⟩ : Addr).add (((q / 5 : Nat) : Int).toNat * 5 + j)) = some u := hc0
  have hlt : q % 5 < 5 := Nat.mod_lt _ (by decide)
  rw [Int.toNat_natCast] at hc
  simp only [delta_rises.addr_change] at hc
  obtain rfl := k61_open hK
  have hq3 : q / 5 * 5 + q % 5 = q := by omega
  have key : ∀ r, r < 5 → q % 5 = r → (w.cell? ⟨g, q, none⟩).isSome = true := by
    intro r hr e
    rw [e] at hq3
    match r, hr with
    | 0, _ => have := hc 0 _ rfl; rw [hq3] at this; rw [this]; rfl
    | 1, _ => have := hc 1 _ rfl; rw [hq3] at this; rw [this]; rfl
    | 2, _ => have := hc 2 _ rfl; rw [hq3] at this; rw [this]; rfl
    | 3, _ => have := hc 3 _ rfl; rw [hq3] at this; rw [this]; rfl
    | 4, _ => have := hc 4 _ rfl; rw [hq3] at this; rw [this]; rfl
  exact key _ hlt rfl
theorem delta_rises.ne_one_change (l : List S61) : delta_rises.neB_change (l.take 1) = true := by cases l <;> rfl
theorem delta_rises.ne_no_change : ∀ (j : Nat) (l : List S61), delta_rises.neB_change (l.take j) = false → delta_rises.neB_change l = false
  | 0, _, h => by cases h
  | 1, [], h => by cases h
  | 1, _ :: _, h => by cases h
  | _ + 2, [], h => by cases h
  | _ + 2, [_], h => by cases h
  | j + 2, a :: b :: r, h => by
    have h2 : (!(b.f0.toList == a.f0.toList) && delta_rises.neB_change ((b :: r).take (j + 1))) = false := h
    show (!(b.f0.toList == a.f0.toList) && delta_rises.neB_change (b :: r)) = false
    cases h3 : (!(b.f0.toList == a.f0.toList)) with
    | false => rfl
    | true =>
      rw [h3, Bool.true_and] at h2
      rw [delta_rises.ne_no_change (j + 1) (b :: r) h2]
      rfl
/-- What CompactFunc answers: a slice that is as long just if no key stands twice side by side. -/
def delta_rises.Cut_change (l0 : List S61) (v : Value) : Prop := ∃ (A : Option Addr) (m c : Nat), v = .slice A m c ∧ (m = l0.length ↔ delta_rises.neB_change l0 = true)
set_option maxHeartbeats 8000000 in
set_option maxRecDepth 100000 in
theorem delta_rises.compact_change (w0 : World) (B : Nat) (A0 : Option Addr) (c0 : Nat) (l0 : List S61) (w : World) (hBw : Below w0.heap.size w0 w) (hB : w.cell? ⟨B, 0, none⟩ = some (.func (.func 37) #[] #[])) (hr0 : Kd.R k61 61 w w0.heap.size (fun _ => True) (.slice A0 l0.length c0) l0) (hne : ∀ q, (Value.slice A0 l0.length c0).ownBlock = some q → q ≠ B) (hl : l0.length ≤ 9223372036854775000) :
    Calls Try.prog 65 #[.slice A0 l0.length c0, .func (.func 66) #[] #[.pointer (some ⟨B, 0, none⟩)]] w fun e w' => ∃ v, e = .returned v ∧ delta_rises.Cut_change l0 v ∧ Below w0.heap.size w0 w' := by
  have hu := Try.underlying61
  have HR := Aside0.mk hr0
  have HR0 := Aside0.mk (Kd.R_reads' hr0).2.2
  have HL := Aside0.mk hl
  have HF := Aside0.mk hB
  have HW0 := Aside0.mk hBw
  have HB := Aside0.mk (Below.refl w.heap.size w)
  have HC0 := Aside0.mk (Kd.R_reads' hr0).2.1
  have eg := enters_of (P := Try.prog) Try.func66 (by kernel_rfl) rfl
  clear hr0 hl hB hBw
  by_cases hn : l0.length < 2
  · have d0 : decide ((l0.length : Int) < 2) = true := decide_eq_true (by omega)
    have d1 : l0.length < 2 := hn
    go_enter Try.func65, Try.ntmps65
    go_wp2
    go_ret
    refine ⟨_, rfl, ⟨_, _, _, rfl, ⟨fun _ => ?_, fun _ => rfl⟩⟩, HW0.out⟩
    match l0, hn with
    | [], _ => rfl
    | [_], _ => rfl
  · have d0 : decide ((l0.length : Int) < 2) = false := decide_eq_false (by omega)
    have d1 : ¬ l0.length < 2 := hn
    have d2 : 2 ≤ l0.length := by omega
    go_enter Try.func65, Try.ntmps65
    go_wp2
    clear d0 d1 d2
    go_loopg [5] (l0.length + 1) (fun kq v5 w' => ∃ m : Nat, v5 = .int .i64 (m : Int) ∧ Aside0 (1 ≤ m ∧ m ≤ l0.length ∧ l0.length < m + kq) ∧ Aside0 (delta_rises.neB_change (l0.take m) = true) ∧ Aside0 (Below w.heap.size w w'))
    case atStart => exact ⟨1, rfl, ⟨⟨Nat.le_refl _, by omega, by omega⟩⟩, ⟨delta_rises.ne_one_change l0⟩, HB⟩
    case round =>
      clear HB
      obtain ⟨m, rfl, HJ, HI, HB⟩ := hrel
      cases gk with
      | zero => exact absurd HJ.out (by omega)
      | succ k1 =>
        by_cases hi : m < l0.length
        · obtain ⟨j, hm⟩ : ∃ j : Nat, m = j + 1 := ⟨m - 1, by have := HJ.out; omega⟩
          obtain ⟨ad, e, hx0, hx1, hx2, hx3, hx4⟩ := at_T61 HR0.out (m : Int) (by omega) (by omega)
          cases e
          obtain ⟨ad2, e2, hy0, hy1, hy2, hy3, hy4⟩ := at_T61 HR0.out (j : Int) (by omega) (by omega)
          obtain rfl := Option.some.inj e2
          clear e2
          rw [Int.toNat_natCast] at hx0 hx1 hx2 hx3 hx4 hy0 hy1 hy2 hy3 hy4
          have hW := HB.out
          replace hx0 := (hW.cell (World.block_lt_of_cell? w _ hx0)).trans hx0
          replace hx1 := (hW.cell (World.block_lt_of_cell? w _ hx1)).trans hx1
          replace hx2 := (hW.cell (World.block_lt_of_cell? w _ hx2)).trans hx2
          replace hx3 := (hW.cell (World.block_lt_of_cell? w _ hx3)).trans hx3
          replace hx4 := (hW.cell (World.block_lt_of_cell? w _ hx4)).trans hx4
          replace hy0 := (hW.cell (World.block_lt_of_cell? w _ hy0)).trans hy0
          replace hy1 := (hW.cell (World.block_lt_of_cell? w _ hy1)).trans hy1
          replace hy2 := (hW.cell (World.block_lt_of_cell? w _ hy2)).trans hy2
          replace hy3 := (hW.cell (World.block_lt_of_cell? w _ hy3)).trans hy3
          replace hy4 := (hW.cell (World.block_lt_of_cell? w _ hy4)).trans hy4
          have hF := (hW.cell (World.block_lt_of_cell? w _ HF.out)).trans HF.out
          have hst := delta_rises.ne_take_change j l0 (by omega) (by have := HI.out; rw [hm] at this; exact this)
          rw [show (j + 2 : Nat) = m + 1 by omega, ← hm] at hst
          have HS := Aside0.mk hst
          clear hst hW HI
          generalize rd_T61 l0 (m : Int) = x at *
          generalize rd_T61 l0 (j : Int) = y at *
          have HFF : Aside0 (wr.drew.cell? ⟨B, 0, none⟩ = some (.func (.func 37) #[] #[])) := ⟨hF⟩
          clear hF
          have b1 : (0 : Int) ≤ (m : Int) := by omega
          have b2 : (m : Int) < (l0.length : Int) := by omega
          have b3 : (0 : Int) ≤ (j : Int) := by omega
          have b4 : (j : Int) < (l0.length : Int) := by omega
          have d0 : decide ((m : Int) < (l0.length : Int)) = true := decide_eq_true (by omega)
          have d3 : m < l0.length := hi
          have d2 : IntKind.i64.wrap ((m : Int) - 1) = (j : Int) := by have := HL.out; rw [i64_w]; unfold wrap64; omega
          have d4 : IntKind.i64.wrap ((m : Int) + 1) = ((m + 1 : Nat) : Int) := by have := HL.out; rw [i64_w]; unfold wrap64; omega
          have HM := Aside0.mk hm
          clear hm hi
          go_wp2
          go_region_held3 (fun W' => W'.cell? (ad.add (m * 5)) = some (.string x.f0) ∧ W'.cell? ⟨(ad.add (m * 5)).block, (ad.add (m * 5)).off + 1, none⟩ = some (.bool x.f1) ∧ W'.cell? ⟨(ad.add (m * 5)).block, (ad.add (m * 5)).off + 2, none⟩ = some (.bool x.f2) ∧ W'.cell? ⟨(ad.add (m * 5)).block, (ad.add (m * 5)).off + 3, none⟩ = some (.string x.f3) ∧ W'.cell? ⟨(ad.add (m * 5)).block, (ad.add (m * 5)).off + 4, none⟩ = some (.string x.f4) ∧ W'.cell? (ad.add (j * 5)) = some (.string y.f0) ∧ W'.cell? ⟨(ad.add (j * 5)).block, (ad.add (j * 5)).off + 1, none⟩ = some (.bool y.f1) ∧ W'.cell? ⟨(ad.add (j * 5)).block, (ad.add (j * 5)).off + 2, none⟩ = some (.bool y.f2) ∧ W'.cell? ⟨(ad.add (j * 5)).block, (ad.add (j * 5)).off + 3, none⟩ = some (.string y.f3) ∧ W'.cell? ⟨(ad.add (j * 5)).block, (ad.add (j * 5)).off + 4, none⟩ = some (.string y.f4))
            (first | exact ⟨(hb1.out.cell (World.block_lt_of_cell? _ _ hx0)).trans hx0, (hb1.out.cell (World.block_lt_of_cell? _ _ hx1)).trans hx1, (hb1.out.cell (World.block_lt_of_cell? _ _ hx2)).trans hx2, (hb1.out.cell (World.block_lt_of_cell? _ _ hx3)).trans hx3, (hb1.out.cell (World.block_lt_of_cell? _ _ hx4)).trans hx4, (hb1.out.cell (World.block_lt_of_cell? _ _ hy0)).trans hy0, (hb1.out.cell (World.block_lt_of_cell? _ _ hy1)).trans hy1, (hb1.out.cell (World.block_lt_of_cell? _ _ hy2)).trans hy2, (hb1.out.cell (World.block_lt_of_cell? _ _ hy3)).trans hy3, (hb1.out.cell (World.block_lt_of_cell? _ _ hy4)).trans hy4⟩ | exact ⟨hx0, hx1, hx2, hx3, hx4, hy0, hy1, hy2, hy3, hy4⟩)
            ((go_at_call 66; (with_reducible refine (delta_rises.eq_change B x y _ HFF.out).mono ?_); rintro e wa ⟨rfl, hb1⟩; have hb1 := Aside0.mk hb1))
          generalize hq : (x.f0.toList == y.f0.toList) = q at HS ⊢
          clear hq
          cases q with
          | true =>
            have hlen : 0 < l0.length := by omega
            obtain ⟨g, cap, hform⟩ : ∃ g cap, (Value.slice (some ad) l0.length c0) = .slice (some ⟨g, 0, none⟩) l0.length cap := by
              obtain ⟨g, cap, h⟩ := Kd.R_form HR.out hlen
              exact ⟨g, cap, h.1⟩
            injection hform with hf1 _ hf3
            obtain rfl := Option.some.inj hf1
            subst hf3
            have hbw := below_step HB.out (below_then (below_drew1 (Below.refl _ wr)) (Nat.le_refl _) hb1.out)
            have HRa := Aside0.mk (Kd.R_below HR.out hbw)
            have HFa := Aside0.mk ((hb1.out.cell (World.block_lt_of_cell? _ _ HFF.out)).trans HFF.out)
            have HBa := Aside0.mk (HW0.out.trans (hbw.mono HW0.out.size))
            have HN := Aside0.mk (delta_rises.ne_no_change (m + 1) l0 HS.out)
            have hgB : g ≠ B := hne g rfl
            have HGE := Aside0.mk (show w0.heap.size ≤ g from Kd.R_base HRa.out g rfl)
            have b5 : (m : Int) ≤ (l0.length : Int) := by omega
            have b6 : (l0.length : Int) ≤ (c0 : Int) := by have := HC0.out; omega
            have b7 : ¬ c0 = m := by have := HC0.out; omega
            have b8 : ¬ c0 - m = 0 := by have := HC0.out; omega
            have hd1 : ((l0.length : Int) - (m : Int)) = ((l0.length - m : Nat) : Int) := by omega
            have HLEN := Aside0.mk (show 1 ≤ m ∧ m < l0.length ∧ l0.length ≤ c0 from ⟨HJ.out.1, by omega, HC0.out⟩)
            clear hbw HR HB hb1 HFF HS
            go_wp2
            clear b1 b2 b3 b4 b5 b6 b7 b8 hd1 d0 d2 d3 d4
            go_loopg [5, 7] (l0.length + 1) (fun kq v5 v7 w' => ∃ (k k2 : Nat) (l : List S61), v5 = .int .i64 (k : Int) ∧ v7 = .int .i64 (k2 : Int) ∧ Aside0 (m ≤ k ∧ k + 1 ≤ m + k2 ∧ 1 ≤ k2 ∧ m + k2 ≤ l0.length ∧ l0.length < m + k2 + kq ∧ l.length = l0.length) ∧ Aside0 (Kd.R k61 61 w' w0.heap.size (fun _ => True) (.slice (some ⟨g, 0, none⟩) l0.length c0) l) ∧ Aside0 (w'.cell? ⟨B, 0, none⟩ = some (.func (.func 37) #[] #[])) ∧ Aside0 (Below w0.heap.size w0 w'))
            case atStart => exact ⟨m, 1, l0, rfl, rfl, ⟨⟨Nat.le_refl _, Nat.le_refl _, Nat.le_refl _, by have := HLEN.out; omega, by omega, rfl⟩⟩, HRa, HFa, HBa⟩
            case round =>
              clear HRa HFa HBa
              obtain ⟨k, k2, l, rfl, rfl, HJ2, HRa, HFa, HBa⟩ := hrel
              cases gk with
              | zero => exact absurd HJ2.out (by omega)
              | succ k3 =>
                by_cases h2 : m + k2 < l0.length
                · obtain ⟨p, hp⟩ : ∃ p : Nat, k2 = p + 1 := ⟨k2 - 1, by have := HJ2.out; omega⟩
                  have hC := (Kd.R_reads' HRa.out).2.2
                  have hll : l.length = l0.length := HJ2.out.2.2.2.2.2
                  obtain ⟨ad, e, hx0, hx1, hx2, hx3, hx4⟩ := at_T61 hC ((m + k2 : Nat) : Int) (by omega) (by omega)
                  cases e
                  obtain ⟨ad, e, hy0, hy1, hy2, hy3, hy4⟩ := at_T61 hC ((m + p : Nat) : Int) (by omega) (by omega)
                  cases e
                  obtain ⟨ad, e, hz0, hz1, hz2, hz3, hz4⟩ := at_T61 hC (k : Int) (by omega) (by have := HJ2.out; omega)
                  cases e
                  clear hC
                  rw [Int.toNat_natCast] at hx0 hx1 hx2 hx3 hx4 hy0 hy1 hy2 hy3 hy4 hz0 hz1 hz2 hz3 hz4
                  have ex : (m + k2) * 5 = m * 5 + k2 * 5 := Nat.add_mul ..
                  have ey : (m + p) * 5 = m * 5 + p * 5 := Nat.add_mul ..
                  simp only [delta_rises.addr_change, ex] at hx0 hx1 hx2 hx3 hx4
                  simp only [delta_rises.addr_change, ey] at hy0 hy1 hy2 hy3 hy4
                  simp only [delta_rises.addr_change] at hz0 hz1 hz2 hz3 hz4
                  clear ex ey hll
                  generalize rd_T61 l ((m + k2 : Nat) : Int) = x at *
                  generalize rd_T61 l ((m + p : Nat) : Int) = y at *
                  generalize rd_T61 l (k : Int) = z at *
                  have HFd : Aside0 (wr.drew.cell? ⟨B, 0, none⟩ = some (.func (.func 37) #[] #[])) := ⟨HFa.out⟩
                  have b1 : (0 : Int) ≤ (k2 : Int) := by omega
                  have b2 : (k2 : Int) < ((l0.length - m : Nat) : Int) := by omega
                  have b3 : (0 : Int) ≤ (p : Int) := by omega
                  have b4 : (p : Int) < ((l0.length - m : Nat) : Int) := by omega
                  have b5 : k2 < l0.length - m := by omega
                  have b6 : (0 : Int) ≤ (k : Int) := by omega
                  have b7 : (k : Int) < (l0.length : Int) := by have := HJ2.out; omega
                  have d2 : IntKind.i64.wrap ((k2 : Int) - 1) = (p : Int) := by have := HL.out; rw [i64_w]; unfold wrap64; omega
                  have d4 : IntKind.i64.wrap ((k2 : Int) + 1) = ((k2 + 1 : Nat) : Int) := by have := HL.out; rw [i64_w]; unfold wrap64; omega
                  have d5 : IntKind.i64.wrap ((k : Int) + 1) = ((k + 1 : Nat) : Int) := by have := HL.out; rw [i64_w]; unfold wrap64; omega
                  have HP := Aside0.mk hp
                  have H2 := Aside0.mk h2
                  clear hp h2
                  go_wp2
                  go_region_held3 (fun W' => W'.cell? ⟨g, m * 5 + k2 * 5, none⟩ = some (.string x.f0) ∧ W'.cell? ⟨g, m * 5 + k2 * 5 + 1, none⟩ = some (.bool x.f1) ∧ W'.cell? ⟨g, m * 5 + k2 * 5 + 2, none⟩ = some (.bool x.f2) ∧ W'.cell? ⟨g, m * 5 + k2 * 5 + 3, none⟩ = some (.string x.f3) ∧ W'.cell? ⟨g, m * 5 + k2 * 5 + 4, none⟩ = some (.string x.f4) ∧ W'.cell? ⟨g, m * 5 + p * 5, none⟩ = some (.string y.f0) ∧ W'.cell? ⟨g, m * 5 + p * 5 + 1, none⟩ = some (.bool y.f1) ∧ W'.cell? ⟨g, m * 5 + p * 5 + 2, none⟩ = some (.bool y.f2) ∧ W'.cell? ⟨g, m * 5 + p * 5 + 3, none⟩ = some (.string y.f3) ∧ W'.cell? ⟨g, m * 5 + p * 5 + 4, none⟩ = some (.string y.f4))
                    (first | exact ⟨(hb1.out.cell (World.block_lt_of_cell? _ _ hx0)).trans hx0, (hb1.out.cell (World.block_lt_of_cell? _ _ hx1)).trans hx1, (hb1.out.cell (World.block_lt_of_cell? _ _ hx2)).trans hx2, (hb1.out.cell (World.block_lt_of_cell? _ _ hx3)).trans hx3, (hb1.out.cell (World.block_lt_of_cell? _ _ hx4)).trans hx4, (hb1.out.cell (World.block_lt_of_cell? _ _ hy0)).trans hy0, (hb1.out.cell (World.block_lt_of_cell? _ _ hy1)).trans hy1, (hb1.out.cell (World.block_lt_of_cell? _ _ hy2)).trans hy2, (hb1.out.cell (World.block_lt_of_cell? _ _ hy3)).trans hy3, (hb1.out.cell (World.block_lt_of_cell? _ _ hy4)).trans hy4⟩ | exact ⟨hx0, hx1, hx2, hx3, hx4, hy0, hy1, hy2, hy3, hy4⟩)
                    ((go_at_call 66; (with_reducible refine (delta_rises.eq_change B x y _ HFd.out).mono ?_); rintro e wa ⟨rfl, hb1⟩; have hb1 := Aside0.mk hb1))
                  have hbw : Below wr.heap.size wr wa := below_then (below_drew1 (Below.refl _ wr)) (Nat.le_refl _) hb1.out
                  have HRb := Aside0.mk (Kd.R_below HRa.out hbw)
                  have HFb := Aside0.mk ((hb1.out.cell (World.block_lt_of_cell? _ _ HFd.out)).trans HFd.out)
                  have HBb := Aside0.mk (HBa.out.trans (hbw.mono HBa.out.size))
                  replace hx0 := (hbw.cell (World.block_lt_of_cell? _ _ hx0)).trans hx0
                  replace hx1 := (hbw.cell (World.block_lt_of_cell? _ _ hx1)).trans hx1
                  replace hx2 := (hbw.cell (World.block_lt_of_cell? _ _ hx2)).trans hx2
                  replace hx3 := (hbw.cell (World.block_lt_of_cell? _ _ hx3)).trans hx3
                  replace hx4 := (hbw.cell (World.block_lt_of_cell? _ _ hx4)).trans hx4
                  replace hz0 := (hbw.cell (World.block_lt_of_cell? _ _ hz0)).trans hz0
                  replace hz1 := (hbw.cell (World.block_lt_of_cell? _ _ hz1)).trans hz1
                  replace hz2 := (hbw.cell (World.block_lt_of_cell? _ _ hz2)).trans hz2
                  replace hz3 := (hbw.cell (World.block_lt_of_cell? _ _ hz3)).trans hz3
                  replace hz4 := (hbw.cell (World.block_lt_of_cell? _ _ hz4)).trans hz4
                  have HZ := Aside0.mk (show wa.cell? ⟨g, k * 5, none⟩ = some (.string z.f0) ∧ wa.cell? ⟨g, k * 5 + 1, none⟩ = some (.bool z.f1) ∧ wa.cell? ⟨g, k * 5 + 2, none⟩ = some (.bool z.f2) ∧ wa.cell? ⟨g, k * 5 + 3, none⟩ = some (.string z.f3) ∧ wa.cell? ⟨g, k * 5 + 4, none⟩ = some (.string z.f4) from ⟨hz0, hz1, hz2, hz3, hz4⟩)
                  clear hy0 hy1 hy2 hy3 hy4 HRa HFa HBa HFd hb1 hbw
                  generalize (x.f0.toList == y.f0.toList) = q
                  cases q with
                  | true =>
                    go_wp2
                    go_roundg k3
                    case measure => omega
                    case rel => exact ⟨k, k2 + 1, l, rfl, by first | rfl | (simp [*]; done) | skip, ⟨by have := HJ2.out; have := H2.out; omega⟩, HRb, HFb, HBb⟩
                  | false =>
                    obtain ⟨g2, cap2, hfm, -, -, cells, hblk⟩ := Kd.R_form HRb.out (by have := HJ2.out; omega)
                    have hf6 : g2 = g := by
                      injection hfm with h1 _ _
                      injection h1 with h2
                      injection h2 with h3
                      exact h3.symm
                    rw [hf6] at hblk
                    clear hf6 hfm
                    have hfz0 : wa.frozen? ⟨g, k * 5, none⟩ = false := blk_frozen hblk _
                    have hfz1 : wa.frozen? ⟨g, k * 5 + 1, none⟩ = false := blk_frozen hblk _
                    have hfz2 : wa.frozen? ⟨g, k * 5 + 2, none⟩ = false := blk_frozen hblk _
                    have hfz3 : wa.frozen? ⟨g, k * 5 + 3, none⟩ = false := blk_frozen hblk _
                    have hfz4 : wa.frozen? ⟨g, k * 5 + 4, none⟩ = false := blk_frozen hblk _
                    have hsg := Kd.R_seg (okp := fun _ => False) HRb.out (k : Int) b6 b7 (c := [.string z.f0, .bool z.f1, .bool z.f2, .string z.f3, .string z.f4]) (seg := [.string x.f0, .bool x.f1, .bool x.f2, .string x.f3, .string x.f4]) (j := 0) rfl (by intro i u hi; have hz := HZ.out; match i, hi with | 0, rfl => exact hz.1 | 1, rfl => exact hz.2.1 | 2, rfl => exact hz.2.2.1 | 3, rfl => exact hz.2.2.2.1 | 4, rfl => exact hz.2.2.2.2) (show 0 + 5 ≤ 5 by omega) (x' := x) (k61_mkM _ _ _ x) (fun _ h => False.elim h)
                    have HSG := Aside0.mk (show Kd.R k61 61 (((((wa.setCell ⟨g, k * 5, none⟩ (.string x.f0)).setCell ⟨g, k * 5 + 1, none⟩ (.bool x.f1)).setCell ⟨g, k * 5 + 2, none⟩ (.bool x.f2)).setCell ⟨g, k * 5 + 3, none⟩ (.string x.f3)).setCell ⟨g, k * 5 + 4, none⟩ (.string x.f4)) w0.heap.size (fun _ => True) (.slice (some ⟨g, 0, none⟩) l0.length c0) (l.set k x) ∧ wa.grownBy (((((wa.setCell ⟨g, k * 5, none⟩ (.string x.f0)).setCell ⟨g, k * 5 + 1, none⟩ (.bool x.f1)).setCell ⟨g, k * 5 + 2, none⟩ (.bool x.f2)).setCell ⟨g, k * 5 + 3, none⟩ (.string x.f3)).setCell ⟨g, k * 5 + 4, none⟩ (.string x.f4)) (some g) from hsg)
                    clear hsg hblk HRb
                    have HFc := Aside0.mk ((HSG.out.2.cell_far ⟨B, 0, none⟩ (World.block_lt_of_cell? _ _ HFb.out) (fun h => hgB (Option.some.inj h).symm)).trans HFb.out)
                    have HG0 := Aside0.mk (show w0.heap.size ≤ g from HGE.out)
                    have HBc := Aside0.mk (show Below w0.heap.size w0 (((((wa.setCell ⟨g, k * 5, none⟩ (.string x.f0)).setCell ⟨g, k * 5 + 1, none⟩ (.bool x.f1)).setCell ⟨g, k * 5 + 2, none⟩ (.bool x.f2)).setCell ⟨g, k * 5 + 3, none⟩ (.string x.f3)).setCell ⟨g, k * 5 + 4, none⟩ (.string x.f4)) from (((((HBb.out.setCell HG0.out _).setCell HG0.out _).setCell HG0.out _).setCell HG0.out _).setCell HG0.out _))
                    go_wp2
                    go_roundg k3
                    case measure => omega
                    case rel => exact ⟨k + 1, k2 + 1, _, by first | rfl | (simp [*]; done) | skip, by first | rfl | (simp [*]; done) | skip, ⟨by have := HJ2.out; have := H2.out; rw [List.length_set]; omega⟩, ⟨HSG.out.1⟩, HFc, HBc⟩
                · have hend : m + k2 = l0.length := by have := HJ2.out; omega
                  have hk : k < l0.length := by have := HJ2.out; omega
                  have hm2 : m ≤ k := HJ2.out.1
                  have b5 : ¬ k2 < l0.length - m := by omega
                  have d0 : decide ((k2 : Int) < ((l0.length - m : Nat) : Int)) = false := decide_eq_false (by omega)
                  have hlc := HLEN.out.2.2
                  have b6 : (0 : Int) ≤ (k : Int) := by omega
                  have b7 : (k : Int) ≤ (l0.length : Int) := by omega
                  have b8 : (l0.length : Int) ≤ (c0 : Int) := by omega
                  have b9 : (k : Int) ≤ (c0 : Int) := by omega
                  have b10 : ¬ c0 = k := by omega
                  have b11 : ¬ c0 - k = 0 := by omega
                  have b12 : ¬ k = 0 := by have := HLEN.out.1; omega
                  have hll : l.length = l0.length := HJ2.out.2.2.2.2.2
                  obtain ⟨g2, cap2, hfm, -, -, cells, hblk⟩ := Kd.R_form HRa.out (by omega)
                  have hf6 : g2 = g := by
                    injection hfm with h1 _ _
                    injection h1 with h2
                    injection h2 with h3
                    exact h3.symm
                  rw [hf6] at hblk
                  have hcl := delta_rises.clear_change wr g (k * 5) (l0.length - k) (c0 - k) (by omega) (fun j hj => delta_rises.some_change (Kd.R_reads' HRa.out).2.2 _ (by rw [hll]; omega)) (fun j _ => blk_frozen hblk _)
                  have HK := Aside0.mk hk
                  have HBc := Aside0.mk (delta_rises.below_sets_change (Builtin.zeroCells (Value.cells (.agg #[.string ⟨#[]⟩, .bool false, .bool false, .string ⟨#[]⟩, .string ⟨#[]⟩])) (l0.length - k)).toList (k * 5) wr HBa.out HGE.out)
                  generalize (Builtin.zeroCells (Value.cells (.agg #[.string ⟨#[]⟩, .bool false, .bool false, .string ⟨#[]⟩, .string ⟨#[]⟩])) (l0.length - k)).toList = vs at *
                  clear hf6 hfm hblk hll hend hm2 hlc h2
                  go_wp2
                  go_ret
                  exact ⟨_, rfl, ⟨_, _, _, rfl, ⟨fun h => absurd h (by have := HK.out; omega), fun h => by rw [HN.out] at h; cases h⟩⟩, HBc.out⟩
          | false =>
            go_wp2
            go_roundg k1
            case measure => omega
            case rel => exact ⟨m + 1, by first | rfl | (simp [*]; done) | skip, ⟨by have := HJ.out; omega⟩, ⟨HS.out⟩, ⟨below_step HB.out (below_then (below_drew1 (Below.refl _ wr)) (Nat.le_refl _) hb1.out)⟩⟩
        · have d0 : decide ((m : Int) < (l0.length : Int)) = false := decide_eq_false (by omega)
          have d3 : ¬ m < l0.length := hi
          have hml : m = l0.length := by have := HJ.out; omega
          have h2 := HI.out
          rw [hml, List.take_length] at h2
          have HS := Aside0.mk h2
          clear h2 hml
          go_wp2
          go_ret
          exact ⟨_, rfl, ⟨_, _, _, rfl, ⟨fun _ => HS.out, fun _ => rfl⟩⟩, HW0.out.trans (HB.out.mono HW0.out.size)⟩
set_option maxHeartbeats 8000000 in
set_option maxRecDepth 100000 in
theorem delta_rises.all_change (A0 : Option Addr) (c0 : Nat) (l0 : List S61) (w : World) (hr0 : Kd.C k61 w A0 l0.length l0) (hc0 : l0.length ≤ c0) (hl : l0.length ≤ 1000000000) :
    Calls Try.prog 42 #[.slice A0 l0.length c0, .func (.func 37) #[] #[]] w fun e w' => e = .returned (.bool (delta_rises.sortB_change l0 && delta_rises.neB_change l0)) ∧ Below w.heap.size w w' := by
  have hw0 : Below w.heap.size w (w.alloc (.cells #[.func (.func 37) #[] #[]] 69)) := (Below.refl _ w).alloc (Nat.le_refl _) _
  have HW0 := Aside0.mk hw0
  have HF0 := Aside0.mk (show (w.alloc (.cells #[.func (.func 37) #[] #[]] 69)).cell? ⟨w.heap.size, 0, none⟩ = some (.func (.func 37) #[] #[]) from (blk_cell (blk_new w _) 0).trans rfl)
  have HR0 := Aside0.mk (Kd.C_below hr0 hw0)
  have HC := Aside0.mk hc0
  have HL := Aside0.mk hl
  have hsz : (w.alloc (.cells #[.func (.func 37) #[] #[]] 69)).heap.size = w.heap.size + 1 := Array.size_push ..
  have HSZ := Aside0.mk hsz
  have HS1 := Aside0.mk (fun W h1 h2 => delta_rises.sorted_change w.heap.size A0 c0 l0 W h1 h2 (by omega))
  have HCL := Aside0.mk (show slices_Clone_Change.f l0 = some l0 from if_pos (by omega))
  clear hw0 hr0 hc0 hl hsz
  obtain ⟨q, hq⟩ : ∃ q : Bool, delta_rises.sortB_change l0 = q := ⟨_, rfl⟩
  rw [hq] at HS1 ⊢
  clear hq
  cases q with
  | false =>
    go_enter Try.func42, Try.ntmps42
    go_wp2_with (go_at_call 63; (with_reducible refine (HS1.out _ HF0.out HR0.out).mono ?_); rintro e w1 ⟨rfl, hb⟩; have HB1 := Aside0.mk (below_step HW0.out hb); clear hb)
    go_ret
    exact ⟨rfl, HB1.out⟩
  | true =>
    go_enter Try.func42, Try.ntmps42
    go_wp2_with (first
      | (go_at_call 63; (with_reducible refine (HS1.out _ HF0.out HR0.out).mono ?_); rintro e w1 ⟨rfl, hb⟩; have HB1 := Aside0.mk (below_step HW0.out hb); have HF1 := Aside0.mk ((hb.cell (World.block_lt_of_cell? _ _ HF0.out)).trans HF0.out); have HR1 := Aside0.mk (Kd.C_below HR0.out hb); have HZ1 := Aside0.mk (show w.heap.size < w1.heap.size by have := hb.size; have := HSZ.out; omega); clear hb)
      | (go_at_call 48; (with_reducible refine (slices_Clone_Change.calls A0 c0 l0 l0 _ HR1.out HC.out HCL.out).mono ?_); rintro e w2 ⟨v, rfl, hR, hb⟩; obtain ⟨A1, c1, rfl⟩ := Kd.R_slice hR; have HR2 := Aside0.mk hR; have HB2 := Aside0.mk hb; have HF2 := Aside0.mk ((hb.cell (World.block_lt_of_cell? _ _ HF1.out)).trans HF1.out); clear hR hb)
      | (go_at_call 65; (with_reducible refine (delta_rises.compact_change w1 w.heap.size A1 c1 l0 _ HB2.out HF2.out HR2.out ?hne ?hll).mono ?_); (case hne => intro q hq e; have := Kd.R_base HR2.out q hq; have := HZ1.out; omega); (case hll => have := HL.out; omega); rintro e w3 ⟨v, rfl, ⟨A2, m, c2, rfl, hm⟩, hb⟩; have HM := Aside0.mk hm; have HB3 := Aside0.mk (below_step HB1.out hb); clear hm hb))
    all_goals
      go_ret
      exact ⟨ret_b (by
        have h := HM.out
        by_cases e : m = l0.length
        · rw [h.1 e]; first | (simp [e]; done) | (rw [e]; simp)
        · have h2 : delta_rises.neB_change l0 = false := by
            cases hz : delta_rises.neB_change l0 with
            | false => rfl
            | true => exact absurd (h.2 hz) e
          rw [h2]; simp; omega), HB3.out⟩
/-- delta.changeKey. -/
def delta_changeKey.f (x : S61) : Option ByteArray := some x.f0
theorem delta_changeKey.calls (x : S61) (r : ByteArray) (w : World) (h : delta_changeKey.f x = some r) :
    Calls Try.prog 37 #[.agg #[.string x.f0, .bool x.f1, .bool x.f2, .string x.f3, .string x.f4]] w fun e w' => e = .returned (.string r) ∧ Below w.heap.size w w' := by
  obtain rfl := Option.some.inj h
  exact delta_rises.key_change x w


end Go.Proofs.Ytcocddpknkklhaa.PA
