-- WRITTEN BY a program of this session (pp.sh)
import Derived.Test.YtofdpgcnconibaaGreatDoorPAx0
import Derived.Test.YtofdpgcnconibaaGreatDoorPAx18
import Derived.Test.YtofdpgcnconibaaGreatDoorPAx19
import Derived.Test.YtofdpgcnconibaaGreatDoorPAx20
set_option linter.unusedVariables false
set_option linter.unusedSimpArgs false
namespace Go.Proofs.YtofdpgcnconibaaGreatDoor.PA
open Go.RowKit Go.Proofs.YtofdpgcnconibaaGreatDoorW.PrintWords Go.Proofs.YtofdpgcnconibaaGreatDoorW.PrintLast Go.Proofs.YtofdpgcnconibaaGreatDoorW.PrintMore Go.Proofs.YtofdpgcnconibaaGreatDoor.Plain
attribute [local go_sem] max2_int min2_int max_two min_two max_three min_three max_four min_four binOp_leq_s binOp_gtr_s binOp_geq_s lit_byte   -- for this text's walks alone
set_option linter.unusedVariables false
set_option linter.unusedSimpArgs false

/-! ### coppiceref19_Encode: function 11 -/
mutual
def coppiceref19_Encode.j0 : Nat → Bool → Bool → Bool → Bool → ByteArray → Int → ByteArray → ByteArray → ByteArray → Int → ByteArray → Option (ByteArray × Int)
 | 0, _, _, _, _, _, _, _, _, _, _, _ => none
 | k + 1, x4, x5, x6, x7, x8, x216000, x216001, x216002, x216003, x216004, x216005 => if x4 = true then ((coppiceref02_Text.f x216002).bind fun t225 => (if x8.size + t225.size ≤ 9223372036854775807 then (coppiceref19_Encode.j1 k x5 x6 x7 (x8 ++ t225) x216000 x216001 x216002 x216003 x216004 x216005) else (none))) else (coppiceref19_Encode.j1 k x5 x6 x7 x8 x216000 x216001 x216002 x216003 x216004 x216005)
def coppiceref19_Encode.j1 : Nat → Bool → Bool → Bool → ByteArray → Int → ByteArray → ByteArray → ByteArray → Int → ByteArray → Option (ByteArray × Int)
 | 0, _, _, _, _, _, _, _, _, _, _ => none
 | k + 1, x5, x6, x7, x8, x216000, x216001, x216002, x216003, x216004, x216005 => if x5 = true then ((coppiceref02_Text.f x216003).bind fun t226 => (if x8.size + t226.size ≤ 9223372036854775807 then (coppiceref19_Encode.j2 k x6 x7 (x8 ++ t226) x216000 x216001 x216002 x216003 x216004 x216005) else (none))) else (coppiceref19_Encode.j2 k x6 x7 x8 x216000 x216001 x216002 x216003 x216004 x216005)
def coppiceref19_Encode.j2 : Nat → Bool → Bool → ByteArray → Int → ByteArray → ByteArray → ByteArray → Int → ByteArray → Option (ByteArray × Int)
 | 0, _, _, _, _, _, _, _, _, _ => none
 | k + 1, x6, x7, x8, x216000, x216001, x216002, x216003, x216004, x216005 => if x6 = true then (coppiceref19_Encode.j3 k x6 x7 x8 (x216000 == 15) x216000 x216001 x216002 x216003 x216004 x216005) else (coppiceref19_Encode.j3 k x6 x7 x8 false x216000 x216001 x216002 x216003 x216004 x216005)
def coppiceref19_Encode.j3 : Nat → Bool → Bool → ByteArray → Bool → Int → ByteArray → ByteArray → ByteArray → Int → ByteArray → Option (ByteArray × Int)
 | 0, _, _, _, _, _, _, _, _, _, _ => none
 | k + 1, x6, x7, x8, x50, x216000, x216001, x216002, x216003, x216004, x216005 => if x50 = true then ((coppiceref02_Fixed.f k (IntKind.u64.wrap (x216004))).bind fun t227 => (if x8.size + t227.size ≤ 9223372036854775807 then (coppiceref19_Encode.j4 k x7 (x8 ++ t227) x216000 x216001 x216002 x216003 x216004 x216005) else (none))) else (if x6 = true then ((coppiceref02_Short.f (IntKind.u64.wrap (x216004))).bind fun t228 => (if x8.size + t228.size ≤ 9223372036854775807 then (coppiceref19_Encode.j4 k x7 (x8 ++ t228) x216000 x216001 x216002 x216003 x216004 x216005) else (none))) else (coppiceref19_Encode.j4 k x7 x8 x216000 x216001 x216002 x216003 x216004 x216005))
def coppiceref19_Encode.j4 : Nat → Bool → ByteArray → Int → ByteArray → ByteArray → ByteArray → Int → ByteArray → Option (ByteArray × Int)
 | 0, _, _, _, _, _, _, _, _ => none
 | k + 1, x7, x8, x216000, x216001, x216002, x216003, x216004, x216005 => if x7 = true then ((coppiceref02_Text.f x216005).bind fun t229 => (if x8.size + t229.size ≤ 9223372036854775807 then ((coppiceref02_Text.f (x8 ++ t229)).bind fun t230 => (some (t230, 0))) else (none))) else ((coppiceref02_Text.f x8).bind fun t231 => (some (t231, 0)))
end
def coppiceref19_Encode.f (k : Nat) (a0_0 : Int) (a0_1 : ByteArray) (a0_2 : ByteArray) (a0_3 : ByteArray) (a0_4 : Int) (a0_5 : ByteArray) : Option (ByteArray × Int) := (coppiceref19_Right.f k a0_0 a0_1 a0_2 a0_3 a0_4 a0_5).bind fun t216 => (if t216 = true then ((coppiceref19_Has.f a0_0).bind fun bt217 => ((some (([(a0_0) % 256] : List Int) : List Int)).bind fun y221 => (if a0_0 = 16 then (coppiceref19_Encode.j0 k bt217.1 bt217.2.1 bt217.2.2.1 bt217.2.2.2 (strOfNums y221) a0_0 a0_1 a0_2 a0_3 a0_4 a0_5) else ((coppiceref02_Text.f a0_1).bind fun t224 => (if (strOfNums y221).size + t224.size ≤ 9223372036854775807 then (coppiceref19_Encode.j0 k bt217.1 bt217.2.1 bt217.2.2.1 bt217.2.2.2 ((strOfNums y221) ++ t224) a0_0 a0_1 a0_2 a0_3 a0_4 a0_5) else (none)))))) else (some ((⟨#[]⟩ : ByteArray), 190)))
set_option maxHeartbeats 8000000 in
set_option maxRecDepth 100000 in
theorem coppiceref19_Encode.calls (k : Nat) (a0_0 : Int) (a0_1 : ByteArray) (a0_2 : ByteArray) (a0_3 : ByteArray) (a0_4 : Int) (a0_5 : ByteArray) (r1 : ByteArray) (r2 : Int) (w : World) (h : coppiceref19_Encode.f k a0_0 a0_1 a0_2 a0_3 a0_4 a0_5 = some (r1, r2)) :
  Calls Tryz.prog 11 #[.agg #[.int .i64 a0_0, .string a0_1, .string a0_2, .string a0_3, .int .i64 a0_4, .string a0_5]] w fun e w' => e = .returned (.tuple #[.string r1, .int .i64 r2]) ∧ Below w.heap.size w w' := by
 have hu23 := Tryz.underlying23
 have HB := Aside0.mk (Below.refl w.heap.size w)
 have H : ((coppiceref19_Right.f k a0_0 a0_1 a0_2 a0_3 a0_4 a0_5).bind fun qu => (if qu = true then ((coppiceref19_Has.f a0_0).bind fun qd => ((some (([(a0_0) % 256] : List Int) : List Int)).bind fun qf => (if a0_0 = 16 then (coppiceref19_Encode.j0 k qd.1 qd.2.1 qd.2.2.1 qd.2.2.2 (strOfNums qf) a0_0 a0_1 a0_2 a0_3 a0_4 a0_5) else ((coppiceref02_Text.f a0_1).bind fun qg => (if (strOfNums qf).size + qg.size ≤ 9223372036854775807 then (coppiceref19_Encode.j0 k qd.1 qd.2.1 qd.2.2.1 qd.2.2.2 ((strOfNums qf) ++ qg) a0_0 a0_1 a0_2 a0_3 a0_4 a0_5) else (none)))))) else (some ((⟨#[]⟩ : ByteArray), 190)))) = some (r1, r2) := h
 clear h
 replace H := Option.bind_eq_some_iff.mp H
 obtain ⟨qu, A20, H⟩ := H
 replace H : (if qu = true then ((coppiceref19_Has.f a0_0).bind fun qd => ((some (([(a0_0) % 256] : List Int) : List Int)).bind fun qf => (if a0_0 = 16 then (coppiceref19_Encode.j0 k qd.1 qd.2.1 qd.2.2.1 qd.2.2.2 (strOfNums qf) a0_0 a0_1 a0_2 a0_3 a0_4 a0_5) else ((coppiceref02_Text.f a0_1).bind fun qg => (if (strOfNums qf).size + qg.size ≤ 9223372036854775807 then (coppiceref19_Encode.j0 k qd.1 qd.2.1 qd.2.2.1 qd.2.2.2 ((strOfNums qf) ++ qg) a0_0 a0_1 a0_2 a0_3 a0_4 a0_5) else (none)))))) else (some ((⟨#[]⟩ : ByteArray), 190))) = some (r1, r2) := H
 have A2 := Aside0.mk A20
 clear A20
 by_cases c3 : qu = true
 ·subst c3
  have H1 : ((coppiceref19_Has.f a0_0).bind fun qd => ((some (([(a0_0) % 256] : List Int) : List Int)).bind fun qf => (if a0_0 = 16 then (coppiceref19_Encode.j0 k qd.1 qd.2.1 qd.2.2.1 qd.2.2.2 (strOfNums qf) a0_0 a0_1 a0_2 a0_3 a0_4 a0_5) else ((coppiceref02_Text.f a0_1).bind fun qg => (if (strOfNums qf).size + qg.size ≤ 9223372036854775807 then (coppiceref19_Encode.j0 k qd.1 qd.2.1 qd.2.2.1 qd.2.2.2 ((strOfNums qf) ++ qg) a0_0 a0_1 a0_2 a0_3 a0_4 a0_5) else (none)))))) = some (r1, r2) := by rw [if_pos rfl] at H; exact H
  clear H
  have H := H1
  clear H1
  replace H := Option.bind_eq_some_iff.mp H
  obtain ⟨⟨qo, qj, qh, qe⟩, A40, H⟩ := H
  replace H : ((some (([(a0_0) % 256] : List Int) : List Int)).bind fun qf => (if a0_0 = 16 then (coppiceref19_Encode.j0 k qo qj qh qe (strOfNums qf) a0_0 a0_1 a0_2 a0_3 a0_4 a0_5) else ((coppiceref02_Text.f a0_1).bind fun qg => (if (strOfNums qf).size + qg.size ≤ 9223372036854775807 then (coppiceref19_Encode.j0 k qo qj qh qe ((strOfNums qf) ++ qg) a0_0 a0_1 a0_2 a0_3 a0_4 a0_5) else (none))))) = some (r1, r2) := H
  have A4 := Aside0.mk A40
  clear A40
  obtain ⟨qf, qt⟩ : ∃ y_ : List Int, y_ = (([(a0_0) % 256] : List Int)) := ⟨_, rfl⟩
  replace H : (if a0_0 = 16 then (coppiceref19_Encode.j0 k qo qj qh qe (strOfNums qf) a0_0 a0_1 a0_2 a0_3 a0_4 a0_5) else ((coppiceref02_Text.f a0_1).bind fun qg => (if (strOfNums qf).size + qg.size ≤ 9223372036854775807 then (coppiceref19_Encode.j0 k qo qj qh qe ((strOfNums qf) ++ qg) a0_0 a0_1 a0_2 a0_3 a0_4 a0_5) else (none)))) = some (r1, r2) := by ((have H2_ := (Option.bind_some _ _).symm.trans H; rw [qt]; with_reducible exact H2_))
  have qz := Aside0.mk qt
  clear qt
  have HC5 := Aside0.mk H
  clear H
  go_enter Tryz.func11, Tryz.ntmps11
  go_upto_if 27 with (first | ((with_reducible refine gate_dst (N := 1) rfl ?_); refine box_event ?hg (N := 1) ?hd (cs := #[.int .i64 a0_0, .string a0_1, .string a0_2, .string a0_3, .int .i64 a0_4, .string a0_5]) (t := 23) ?hr ?_; (case hd => rfl); (case hg => rfl); (case hr => ((go_simp; done))); intro qc hg w6 hbox hb; have n0_ := Aside0.mk (below_step (by repeat (((with_reducible (exact HB.out))))) hb); have n1_ := Aside0.mk (hbox); have n2_ := Aside0.mk ((by rw [hg]; exact (below_size (by repeat (((with_reducible (exact HB.out)))))) : w.heap.size ≤ qc)); have n3_ := Aside0.mk ((by rw [hg]; exact (below_size (by repeat (((with_reducible (exact HB.out)))))) : w.heap.size ≤ qc)); clear HB; have HB := n0_; have qb := n1_; have GW215 := n2_; have qaa := n3_; clear n0_ n1_ n2_ n3_; clear hb hbox hg; have hcz7_0 : w6.cell? ⟨qc, 0, none⟩ = some (.int .i64 a0_0) := (blk_cell qb.out 0).trans rfl; have hcz7_1 : w6.cell? ⟨qc, 1, none⟩ = some (.string a0_1) := (blk_cell qb.out 1).trans rfl; have hcz7_2 : w6.cell? ⟨qc, 2, none⟩ = some (.string a0_2) := (blk_cell qb.out 2).trans rfl; have hcz7_3 : w6.cell? ⟨qc, 3, none⟩ = some (.string a0_3) := (blk_cell qb.out 3).trans rfl; have hcz7_4 : w6.cell? ⟨qc, 4, none⟩ = some (.int .i64 a0_4) := (blk_cell qb.out 4).trans rfl; have hcz7_5 : w6.cell? ⟨qc, 5, none⟩ = some (.string a0_5) := (blk_cell qb.out 5).trans rfl; have hfz7_0 := blk_frozen qb.out 0; have hfz7_1 := blk_frozen qb.out 1; have hfz7_2 := blk_frozen qb.out 2; have hfz7_3 := blk_frozen qb.out 3; have hfz7_4 := blk_frozen qb.out 4; have hfz7_5 := blk_frozen qb.out 5) | ((with_reducible refine gate_callee (f := 23) rfl ?_); refine goesL_ (some 10) rfl rfl Tryz.func23 (by kernel_rfl) rfl #[.agg #[.int .i64 a0_0, .string a0_1, .string a0_2, .string a0_3, .int .i64 a0_4, .string a0_5]] rfl (by (try simp only [List.map_toArray, List.map_cons, List.map_nil]); (rfl)) ?_; (with_reducible refine (coppiceref19_Right.calls k a0_0 a0_1 a0_2 a0_3 a0_4 a0_5 true _ A2.out).mono ?_); rintro e w8 ⟨rfl, hb⟩; refine ⟨_, rfl, ?_⟩; have n0_ := Aside0.mk (blk_below (g := qc) (o := .cells #[.int .i64 a0_0, .string a0_1, .string a0_2, .string a0_3, .int .i64 a0_4, .string a0_5] 23 (0, 0)) (by exact qb.out) hb); have n1_ := Aside0.mk (below_step (by repeat (((with_reducible (exact HB.out))))) hb); clear qb; clear HB; have qb := n0_; have HB := n1_; clear n0_ n1_; (try clear hb); (try clear hb2); (try clear hk); (try clear hi); have hcz9_0 : w8.cell? ⟨qc, 0, none⟩ = some (.int .i64 a0_0) := (blk_cell qb.out 0).trans rfl; have hcz9_1 : w8.cell? ⟨qc, 1, none⟩ = some (.string a0_1) := (blk_cell qb.out 1).trans rfl; have hcz9_2 : w8.cell? ⟨qc, 2, none⟩ = some (.string a0_2) := (blk_cell qb.out 2).trans rfl; have hcz9_3 : w8.cell? ⟨qc, 3, none⟩ = some (.string a0_3) := (blk_cell qb.out 3).trans rfl; have hcz9_4 : w8.cell? ⟨qc, 4, none⟩ = some (.int .i64 a0_4) := (blk_cell qb.out 4).trans rfl; have hcz9_5 : w8.cell? ⟨qc, 5, none⟩ = some (.string a0_5) := (blk_cell qb.out 5).trans rfl; have hfz9_0 := blk_frozen qb.out 0; have hfz9_1 := blk_frozen qb.out 1; have hfz9_2 := blk_frozen qb.out 2; have hfz9_3 := blk_frozen qb.out 3; have hfz9_4 := blk_frozen qb.out 4; have hfz9_5 := blk_frozen qb.out 5) | ((with_reducible refine gate_callee (f := 24) rfl ?_); refine goesL_ (some 15) rfl rfl Tryz.func24 (by kernel_rfl) rfl #[.int .i64 a0_0] rfl (by (try simp only [List.map_toArray, List.map_cons, List.map_nil]); (rfl)) ?_; (with_reducible refine (coppiceref19_Has.calls a0_0 qo qj qh qe _ A4.out).mono ?_); rintro e w' ⟨rfl, ⟨nd, rfl⟩⟩; refine ⟨_, rfl, ?_⟩) | ((with_reducible refine gate_dst (N := 23) rfl ?_); refine Kd.R_lit (Kd.int .u8) _ 5 ?hg (N := 23) ?hd (xs := ([(a0_0) % 256] : List Int)) (inner := [.int .u8 ((a0_0) % 256)]) (ok := fun _ => True) (okp := fun _ => True) ?hr ?hp (fun _ hk => hk) trivial (Below.refl _ _) (Nat.le_refl _) (by simp) ?_; (case hd => rfl); (case hg => rfl); (case hr => ((go_simp; done))); (case hp => exact (Reps.one (show Kd.M (Kd.int .u8) _ _ _ ((a0_0) % 256) [.int .u8 ((a0_0) % 256)] from rfl) (Reps.none _ _))); intro qac w10 ho11 hb hg_ hnew_; clear hg_ hnew_; ((rw [← qz.out] at ho11)); have n0_ := Aside0.mk (Kd.R_lower ho11 (below_size (by repeat (((with_reducible first | exact HB.out | apply pw_below_drewN )))))); have n1_ := Aside0.mk (blk_below (g := qc) (o := .cells #[.int .i64 a0_0, .string a0_1, .string a0_2, .string a0_3, .int .i64 a0_4, .string a0_5] 23 (0, 0)) (by (with_reducible repeat ((refine blk_drewN ?_ _))); exact qb.out) hb); have n2_ := Aside0.mk (below_step (by repeat (((with_reducible first | exact HB.out | apply pw_below_drewN )))) hb); clear qb; clear HB; have qr := n0_; have qb := n1_; have HB := n2_; clear n0_ n1_ n2_; clear hb ho11; have hcv12 := own_string (P := Tryz.prog) Tryz.underlying61 Tryz.underlying5 Tryz.underlying9 (Kd.own_of_R qr.out); have hcz13_0 : w10.cell? ⟨qc, 0, none⟩ = some (.int .i64 a0_0) := (blk_cell qb.out 0).trans rfl; have hcz13_1 : w10.cell? ⟨qc, 1, none⟩ = some (.string a0_1) := (blk_cell qb.out 1).trans rfl; have hcz13_2 : w10.cell? ⟨qc, 2, none⟩ = some (.string a0_2) := (blk_cell qb.out 2).trans rfl; have hcz13_3 : w10.cell? ⟨qc, 3, none⟩ = some (.string a0_3) := (blk_cell qb.out 3).trans rfl; have hcz13_4 : w10.cell? ⟨qc, 4, none⟩ = some (.int .i64 a0_4) := (blk_cell qb.out 4).trans rfl; have hcz13_5 : w10.cell? ⟨qc, 5, none⟩ = some (.string a0_5) := (blk_cell qb.out 5).trans rfl; have hfz13_0 := blk_frozen qb.out 0; have hfz13_1 := blk_frozen qb.out 1; have hfz13_2 := blk_frozen qb.out 2; have hfz13_3 := blk_frozen qb.out 3; have hfz13_4 := blk_frozen qb.out 4; have hfz13_5 := blk_frozen qb.out 5))
  (try simp only [Act.put, List.setIfInBounds_toArray, List.set_cons_zero, List.set_cons_succ])
  go_cut [8] (fun v8 wc => ∃ (kq : Nat) (x8_4 : ByteArray), v8 = .string x8_4 ∧ Aside0 (coppiceref19_Encode.j0 kq qo qj qh qe x8_4 a0_0 a0_1 a0_2 a0_3 a0_4 a0_5 = some (r1, r2)) ∧ Aside0 (kq ≤ k) ∧ Aside0 (wc.heap[qc]? = some (.cells #[.int .i64 a0_0, .string a0_1, .string a0_2, .string a0_3, .int .i64 a0_4, .string a0_5] 23 (0, 0))) ∧ Aside0 (Below w.heap.size w wc))
  case first =>
   have H := HC5.out
   clear HC5
   by_cases c14 : a0_0 = 16
   ·rw [if_pos c14] at H
    have c14b0 : (a0_0 == 16) = true := beq_iff_eq.mpr c14
    have c14b1 : (a0_0 != 16) = false := bne_eq_false_iff_eq.mpr c14
    clear c14
    ((skip))
    have H' := Aside0.mk H
    clear H
    go_wp2
    go_meet
    case rel => exact ⟨_, (strOfNums qf), (by (rfl)), H', ⟨by (omega)⟩, ⟨by exact qb.out⟩, ⟨by repeat (((with_reducible (exact HB.out))))⟩⟩
   ·rw [if_neg c14] at H
    have c14b0 : (a0_0 == 16) = false := beq_eq_false_iff_ne.mpr c14
    have c14b1 : (a0_0 != 16) = true := bne_iff_ne.mpr c14
    ((skip))
    replace H := Option.bind_eq_some_iff.mp H
    obtain ⟨qg, A150, H⟩ := H
    replace H : (if (strOfNums qf).size + qg.size ≤ 9223372036854775807 then (coppiceref19_Encode.j0 k qo qj qh qe ((strOfNums qf) ++ qg) a0_0 a0_1 a0_2 a0_3 a0_4 a0_5) else (none)) = some (r1, r2) := H
    have A15 := Aside0.mk A150
    clear A150
    by_cases c16 : (strOfNums qf).size + qg.size ≤ 9223372036854775807
    ·rw [if_pos c16] at H
     have c16b0 := eq_true c16
     have c16b1 : decide ((strOfNums qf).size + qg.size ≤ 9223372036854775807) = true := decide_eq_true c16
     try have c16b2 : (9223372036854775807 < (strOfNums qf).size + qg.size) = False := eq_false (Nat.not_lt.2 c16)
     have H' := Aside0.mk H
     clear H
     have hcz17_0 : w10.cell? ⟨qc, 0, none⟩ = some (.int .i64 a0_0) := (blk_cell qb.out 0).trans rfl
     have hcz17_1 : w10.cell? ⟨qc, 1, none⟩ = some (.string a0_1) := (blk_cell qb.out 1).trans rfl
     have hcz17_2 : w10.cell? ⟨qc, 2, none⟩ = some (.string a0_2) := (blk_cell qb.out 2).trans rfl
     have hcz17_3 : w10.cell? ⟨qc, 3, none⟩ = some (.string a0_3) := (blk_cell qb.out 3).trans rfl
     have hcz17_4 : w10.cell? ⟨qc, 4, none⟩ = some (.int .i64 a0_4) := (blk_cell qb.out 4).trans rfl
     have hcz17_5 : w10.cell? ⟨qc, 5, none⟩ = some (.string a0_5) := (blk_cell qb.out 5).trans rfl
     have hfz17_0 := blk_frozen qb.out 0
     have hfz17_1 := blk_frozen qb.out 1
     have hfz17_2 := blk_frozen qb.out 2
     have hfz17_3 := blk_frozen qb.out 3
     have hfz17_4 := blk_frozen qb.out 4
     have hfz17_5 := blk_frozen qb.out 5
     go_wp2_with (first | ((with_reducible refine gate_callee (f := 25) rfl ?_); refine goesL_ (some 31) rfl rfl Tryz.func25 (by kernel_rfl) rfl #[.string a0_1] rfl (by (try simp only [List.map_toArray, List.map_cons, List.map_nil]); (rfl)) ?_; (with_reducible refine (coppiceref02_Text.calls a0_1 qg _ A15.out).mono ?_); rintro e w18 ⟨rfl, hb⟩; refine ⟨_, rfl, ?_⟩; have n0_ := Aside0.mk (Kd.R_below (by exact qr.out) hb); have n1_ := Aside0.mk (blk_below (g := qc) (o := .cells #[.int .i64 a0_0, .string a0_1, .string a0_2, .string a0_3, .int .i64 a0_4, .string a0_5] 23 (0, 0)) (by exact qb.out) hb); have n2_ := Aside0.mk (below_step (by repeat (((with_reducible (exact HB.out))))) hb); clear qr; clear qb; clear HB; have qr := n0_; have qb := n1_; have HB := n2_; clear n0_ n1_ n2_; (try clear hb); (try clear hb2); (try clear hk); (try clear hi)))
     go_meet
     case rel => exact ⟨_, ((strOfNums qf) ++ qg), (by (rfl)), H', ⟨by (omega)⟩, ⟨by exact qb.out⟩, ⟨by repeat (((with_reducible (exact HB.out))))⟩⟩
    ·rw [if_neg c16] at H
     exact absurd H (by simp)
  case rest =>
   clear HC5
   try clear c1
   try clear hcv1
   try clear c2
   try clear p2
   try clear c3
   try clear c11
   try clear hcv12
   try clear c14
   try clear c14b0
   try clear c14b1
   try clear c16
   try clear c16b0
   try clear c16b1
   try clear c16b2
   try clear hcz13_0
   try clear hcz13_1
   try clear hcz13_2
   try clear hcz13_3
   try clear hcz13_4
   try clear hcz13_5
   try clear hcz17_0
   try clear hcz17_1
   try clear hcz17_2
   try clear hcz17_3
   try clear hcz17_4
   try clear hcz17_5
   try clear hcz7_0
   try clear hcz7_1
   try clear hcz7_2
   try clear hcz7_3
   try clear hcz7_4
   try clear hcz7_5
   try clear hcz9_0
   try clear hcz9_1
   try clear hcz9_2
   try clear hcz9_3
   try clear hcz9_4
   try clear hcz9_5
   try clear hfz13_0
   try clear hfz13_1
   try clear hfz13_2
   try clear hfz13_3
   try clear hfz13_4
   try clear hfz13_5
   try clear hfz17_0
   try clear hfz17_1
   try clear hfz17_2
   try clear hfz17_3
   try clear hfz17_4
   try clear hfz17_5
   try clear hfz7_0
   try clear hfz7_1
   try clear hfz7_2
   try clear hfz7_3
   try clear hfz7_4
   try clear hfz7_5
   try clear hfz9_0
   try clear hfz9_1
   try clear hfz9_2
   try clear hfz9_3
   try clear hfz9_4
   try clear hfz9_5
   obtain ⟨kq, x8_4, rfl, HA, HJ4, qb, HB⟩ := hcut
   cases kq with
   | zero => exact absurd HA.out (by simp [coppiceref19_Encode.j0])
   | succ kj4 =>
    have H := HA.out
    clear HA
    simp only [coppiceref19_Encode.j0] at H
    have qy := Aside0.mk H
    clear H
    go_upto_if 33 with (fail)
    go_cut [8] (fun v8 wc => ∃ (kq : Nat) (x8_18 : ByteArray), v8 = .string x8_18 ∧ Aside0 (coppiceref19_Encode.j1 kq qj qh qe x8_18 a0_0 a0_1 a0_2 a0_3 a0_4 a0_5 = some (r1, r2)) ∧ Aside0 (kq ≤ kj4) ∧ Aside0 (wc.heap[qc]? = some (.cells #[.int .i64 a0_0, .string a0_1, .string a0_2, .string a0_3, .int .i64 a0_4, .string a0_5] 23 (0, 0))) ∧ Aside0 (Below w.heap.size w wc))
    case first =>
     have H := qy.out
     clear qy
     by_cases c20 : qo = true
     ·subst c20
      have H1 : ((coppiceref02_Text.f a0_2).bind fun qn => (if x8_4.size + qn.size ≤ 9223372036854775807 then (coppiceref19_Encode.j1 kj4 qj qh qe (x8_4 ++ qn) a0_0 a0_1 a0_2 a0_3 a0_4 a0_5) else (none))) = some (r1, r2) := by rw [if_pos rfl] at H; exact H
      clear H
      have H := H1
      clear H1
      replace H := Option.bind_eq_some_iff.mp H
      obtain ⟨qn, A210, H⟩ := H
      replace H : (if x8_4.size + qn.size ≤ 9223372036854775807 then (coppiceref19_Encode.j1 kj4 qj qh qe (x8_4 ++ qn) a0_0 a0_1 a0_2 a0_3 a0_4 a0_5) else (none)) = some (r1, r2) := H
      have A21 := Aside0.mk A210
      clear A210
      by_cases c22 : x8_4.size + qn.size ≤ 9223372036854775807
      ·rw [if_pos c22] at H
       have c22b0 := eq_true c22
       have c22b1 : decide (x8_4.size + qn.size ≤ 9223372036854775807) = true := decide_eq_true c22
       try have c22b2 : (9223372036854775807 < x8_4.size + qn.size) = False := eq_false (Nat.not_lt.2 c22)
       have H' := Aside0.mk H
       clear H
       have hcz23_0 : wc.cell? ⟨qc, 0, none⟩ = some (.int .i64 a0_0) := (blk_cell qb.out 0).trans rfl
       have hcz23_1 : wc.cell? ⟨qc, 1, none⟩ = some (.string a0_1) := (blk_cell qb.out 1).trans rfl
       have hcz23_2 : wc.cell? ⟨qc, 2, none⟩ = some (.string a0_2) := (blk_cell qb.out 2).trans rfl
       have hcz23_3 : wc.cell? ⟨qc, 3, none⟩ = some (.string a0_3) := (blk_cell qb.out 3).trans rfl
       have hcz23_4 : wc.cell? ⟨qc, 4, none⟩ = some (.int .i64 a0_4) := (blk_cell qb.out 4).trans rfl
       have hcz23_5 : wc.cell? ⟨qc, 5, none⟩ = some (.string a0_5) := (blk_cell qb.out 5).trans rfl
       have hfz23_0 := blk_frozen qb.out 0
       have hfz23_1 := blk_frozen qb.out 1
       have hfz23_2 := blk_frozen qb.out 2
       have hfz23_3 := blk_frozen qb.out 3
       have hfz23_4 := blk_frozen qb.out 4
       have hfz23_5 := blk_frozen qb.out 5
       go_wp2_with (first | ((with_reducible refine gate_callee (f := 25) rfl ?_); refine goesL_ (some 37) rfl rfl Tryz.func25 (by kernel_rfl) rfl #[.string a0_2] rfl (by (try simp only [List.map_toArray, List.map_cons, List.map_nil]); (rfl)) ?_; (with_reducible refine (coppiceref02_Text.calls a0_2 qn _ A21.out).mono ?_); rintro e w24 ⟨rfl, hb⟩; refine ⟨_, rfl, ?_⟩; have n0_ := Aside0.mk (blk_below (g := qc) (o := .cells #[.int .i64 a0_0, .string a0_1, .string a0_2, .string a0_3, .int .i64 a0_4, .string a0_5] 23 (0, 0)) (by exact qb.out) hb); have n1_ := Aside0.mk (below_step (by repeat (((with_reducible (exact HB.out))))) hb); clear qb; clear HB; have qb := n0_; have HB := n1_; clear n0_ n1_; (try clear hb); (try clear hb2); (try clear hk); (try clear hi)))
       go_meet
       case rel => exact ⟨_, (x8_4 ++ qn), (by (rfl)), H', ⟨by have := HJ4.out; (omega)⟩, ⟨by exact qb.out⟩, ⟨by repeat (((with_reducible (exact HB.out))))⟩⟩
      ·rw [if_neg c22] at H
       exact absurd H (by simp)
     ·replace c20 := Bool.eq_false_iff.mpr c20
      subst c20
      have H1 : (coppiceref19_Encode.j1 kj4 qj qh qe x8_4 a0_0 a0_1 a0_2 a0_3 a0_4 a0_5) = some (r1, r2) := by rw [if_neg (show ¬ (false = true) by decide)] at H; exact H
      clear H
      have H := H1
      clear H1
      have H' := Aside0.mk H
      clear H
      go_wp2
      go_meet
      case rel => exact ⟨_, (x8_4), (by (rfl)), H', ⟨by have := HJ4.out; (omega)⟩, ⟨by exact qb.out⟩, ⟨by repeat (((with_reducible (exact HB.out))))⟩⟩
    case rest =>
     clear qy
     try clear c1
     try clear hcv1
     try clear c2
     try clear p2
     try clear c3
     try clear c11
     try clear hcv12
     try clear c14
     try clear c14b0
     try clear c14b1
     try clear c16
     try clear c16b0
     try clear c16b1
     try clear c16b2
     try clear c20
     try clear c22
     try clear c22b0
     try clear c22b1
     try clear c22b2
     try clear c23
     try clear c24
     try clear hcz13_0
     try clear hcz13_1
     try clear hcz13_2
     try clear hcz13_3
     try clear hcz13_4
     try clear hcz13_5
     try clear hcz17_0
     try clear hcz17_1
     try clear hcz17_2
     try clear hcz17_3
     try clear hcz17_4
     try clear hcz17_5
     try clear hcz23_0
     try clear hcz23_1
     try clear hcz23_2
     try clear hcz23_3
     try clear hcz23_4
     try clear hcz23_5
     try clear hcz7_0
     try clear hcz7_1
     try clear hcz7_2
     try clear hcz7_3
     try clear hcz7_4
     try clear hcz7_5
     try clear hcz9_0
     try clear hcz9_1
     try clear hcz9_2
     try clear hcz9_3
     try clear hcz9_4
     try clear hcz9_5
     try clear hfz13_0
     try clear hfz13_1
     try clear hfz13_2
     try clear hfz13_3
     try clear hfz13_4
     try clear hfz13_5
     try clear hfz17_0
     try clear hfz17_1
     try clear hfz17_2
     try clear hfz17_3
     try clear hfz17_4
     try clear hfz17_5
     try clear hfz23_0
     try clear hfz23_1
     try clear hfz23_2
     try clear hfz23_3
     try clear hfz23_4
     try clear hfz23_5
     try clear hfz7_0
     try clear hfz7_1
     try clear hfz7_2
     try clear hfz7_3
     try clear hfz7_4
     try clear hfz7_5
     try clear hfz9_0
     try clear hfz9_1
     try clear hfz9_2
     try clear hfz9_3
     try clear hfz9_4
     try clear hfz9_5
     try clear p2
     obtain ⟨kq, x8_18, rfl, HA, HJ18, qb, HB⟩ := hcut
     cases kq with
     | zero => exact absurd HA.out (by simp [coppiceref19_Encode.j1])
     | succ kj18 =>
      have H := HA.out
      clear HA
      simp only [coppiceref19_Encode.j1] at H
      have qw := Aside0.mk H
      clear H
      go_upto_if 39 with (fail)
      go_cut [8] (fun v8 wc => ∃ (kq : Nat) (x8_24 : ByteArray), v8 = .string x8_24 ∧ Aside0 (coppiceref19_Encode.j2 kq qh qe x8_24 a0_0 a0_1 a0_2 a0_3 a0_4 a0_5 = some (r1, r2)) ∧ Aside0 (kq ≤ kj18) ∧ Aside0 (wc.heap[qc]? = some (.cells #[.int .i64 a0_0, .string a0_1, .string a0_2, .string a0_3, .int .i64 a0_4, .string a0_5] 23 (0, 0))) ∧ Aside0 (Below w.heap.size w wc))
      case first =>
       have H := qw.out
       clear qw
       by_cases c26 : qj = true
       ·subst c26
        have H1 : ((coppiceref02_Text.f a0_3).bind fun ql => (if x8_18.size + ql.size ≤ 9223372036854775807 then (coppiceref19_Encode.j2 kj18 qh qe (x8_18 ++ ql) a0_0 a0_1 a0_2 a0_3 a0_4 a0_5) else (none))) = some (r1, r2) := by rw [if_pos rfl] at H; exact H
        clear H
        have H := H1
        clear H1
        replace H := Option.bind_eq_some_iff.mp H
        obtain ⟨ql, A270, H⟩ := H
        replace H : (if x8_18.size + ql.size ≤ 9223372036854775807 then (coppiceref19_Encode.j2 kj18 qh qe (x8_18 ++ ql) a0_0 a0_1 a0_2 a0_3 a0_4 a0_5) else (none)) = some (r1, r2) := H
        have A27 := Aside0.mk A270
        clear A270
        by_cases c28 : x8_18.size + ql.size ≤ 9223372036854775807
        ·rw [if_pos c28] at H
         have c28b0 := eq_true c28
         have c28b1 : decide (x8_18.size + ql.size ≤ 9223372036854775807) = true := decide_eq_true c28
         try have c28b2 : (9223372036854775807 < x8_18.size + ql.size) = False := eq_false (Nat.not_lt.2 c28)
         have H' := Aside0.mk H
         clear H
         have hcz29_0 : wc.cell? ⟨qc, 0, none⟩ = some (.int .i64 a0_0) := (blk_cell qb.out 0).trans rfl
         have hcz29_1 : wc.cell? ⟨qc, 1, none⟩ = some (.string a0_1) := (blk_cell qb.out 1).trans rfl
         have hcz29_2 : wc.cell? ⟨qc, 2, none⟩ = some (.string a0_2) := (blk_cell qb.out 2).trans rfl
         have hcz29_3 : wc.cell? ⟨qc, 3, none⟩ = some (.string a0_3) := (blk_cell qb.out 3).trans rfl
         have hcz29_4 : wc.cell? ⟨qc, 4, none⟩ = some (.int .i64 a0_4) := (blk_cell qb.out 4).trans rfl
         have hcz29_5 : wc.cell? ⟨qc, 5, none⟩ = some (.string a0_5) := (blk_cell qb.out 5).trans rfl
         have hfz29_0 := blk_frozen qb.out 0
         have hfz29_1 := blk_frozen qb.out 1
         have hfz29_2 := blk_frozen qb.out 2
         have hfz29_3 := blk_frozen qb.out 3
         have hfz29_4 := blk_frozen qb.out 4
         have hfz29_5 := blk_frozen qb.out 5
         go_wp2_with (first | ((with_reducible refine gate_callee (f := 25) rfl ?_); refine goesL_ (some 43) rfl rfl Tryz.func25 (by kernel_rfl) rfl #[.string a0_3] rfl (by (try simp only [List.map_toArray, List.map_cons, List.map_nil]); (rfl)) ?_; (with_reducible refine (coppiceref02_Text.calls a0_3 ql _ A27.out).mono ?_); rintro e w30 ⟨rfl, hb⟩; refine ⟨_, rfl, ?_⟩; have n0_ := Aside0.mk (blk_below (g := qc) (o := .cells #[.int .i64 a0_0, .string a0_1, .string a0_2, .string a0_3, .int .i64 a0_4, .string a0_5] 23 (0, 0)) (by exact qb.out) hb); have n1_ := Aside0.mk (below_step (by repeat (((with_reducible (exact HB.out))))) hb); clear qb; clear HB; have qb := n0_; have HB := n1_; clear n0_ n1_; (try clear hb); (try clear hb2); (try clear hk); (try clear hi)))
         go_meet
         case rel => exact ⟨_, (x8_18 ++ ql), (by (rfl)), H', ⟨by have := HJ4.out; have := HJ18.out; (omega)⟩, ⟨by exact qb.out⟩, ⟨by repeat (((with_reducible (exact HB.out))))⟩⟩
        ·rw [if_neg c28] at H
         exact absurd H (by simp)
       ·replace c26 := Bool.eq_false_iff.mpr c26
        subst c26
        have H1 : (coppiceref19_Encode.j2 kj18 qh qe x8_18 a0_0 a0_1 a0_2 a0_3 a0_4 a0_5) = some (r1, r2) := by rw [if_neg (show ¬ (false = true) by decide)] at H; exact H
        clear H
        have H := H1
        clear H1
        have H' := Aside0.mk H
        clear H
        go_wp2
        go_meet
        case rel => exact ⟨_, (x8_18), (by (rfl)), H', ⟨by have := HJ4.out; have := HJ18.out; (omega)⟩, ⟨by exact qb.out⟩, ⟨by repeat (((with_reducible (exact HB.out))))⟩⟩
      case rest =>
       clear qw
       try clear c1
       try clear hcv1
       try clear c2
       try clear p2
       try clear c3
       try clear c11
       try clear hcv12
       try clear c14
       try clear c14b0
       try clear c14b1
       try clear c16
       try clear c16b0
       try clear c16b1
       try clear c16b2
       try clear c20
       try clear c22
       try clear c22b0
       try clear c22b1
       try clear c22b2
       try clear c23
       try clear c24
       try clear c25
       try clear c26
       try clear c28
       try clear c28b0
       try clear c28b1
       try clear c28b2
       try clear hcz13_0
       try clear hcz13_1
       try clear hcz13_2
       try clear hcz13_3
       try clear hcz13_4
       try clear hcz13_5
       try clear hcz17_0
       try clear hcz17_1
       try clear hcz17_2
       try clear hcz17_3
       try clear hcz17_4
       try clear hcz17_5
       try clear hcz23_0
       try clear hcz23_1
       try clear hcz23_2
       try clear hcz23_3
       try clear hcz23_4
       try clear hcz23_5
       try clear hcz29_0
       try clear hcz29_1
       try clear hcz29_2
       try clear hcz29_3
       try clear hcz29_4
       try clear hcz29_5
       try clear hcz7_0
       try clear hcz7_1
       try clear hcz7_2
       try clear hcz7_3
       try clear hcz7_4
       try clear hcz7_5
       try clear hcz9_0
       try clear hcz9_1
       try clear hcz9_2
       try clear hcz9_3
       try clear hcz9_4
       try clear hcz9_5
       try clear hfz13_0
       try clear hfz13_1
       try clear hfz13_2
       try clear hfz13_3
       try clear hfz13_4
       try clear hfz13_5
       try clear hfz17_0
       try clear hfz17_1
       try clear hfz17_2
       try clear hfz17_3
       try clear hfz17_4
       try clear hfz17_5
       try clear hfz23_0
       try clear hfz23_1
       try clear hfz23_2
       try clear hfz23_3
       try clear hfz23_4
       try clear hfz23_5
       try clear hfz29_0
       try clear hfz29_1
       try clear hfz29_2
       try clear hfz29_3
       try clear hfz29_4
       try clear hfz29_5
       try clear hfz7_0
       try clear hfz7_1
       try clear hfz7_2
       try clear hfz7_3
       try clear hfz7_4
       try clear hfz7_5
       try clear hfz9_0
       try clear hfz9_1
       try clear hfz9_2
       try clear hfz9_3
       try clear hfz9_4
       try clear hfz9_5
       try clear p2
       obtain ⟨kq, x8_24, rfl, HA, HJ24, qb, HB⟩ := hcut
       cases kq with
       | zero => exact absurd HA.out (by simp [coppiceref19_Encode.j2])
       | succ kj24 =>
        have H := HA.out
        clear HA
        simp only [coppiceref19_Encode.j2] at H
        have qx := Aside0.mk H
        clear H
        go_upto_region 11 with (fail)
        go_cut [50] (fun v50 wc => ∃ (kq : Nat) (qp : Bool), v50 = .bool qp ∧ Aside0 (coppiceref19_Encode.j3 kq qh qe x8_24 qp a0_0 a0_1 a0_2 a0_3 a0_4 a0_5 = some (r1, r2)) ∧ Aside0 (kq ≤ kj24) ∧ Aside0 (wc.heap[qc]? = some (.cells #[.int .i64 a0_0, .string a0_1, .string a0_2, .string a0_3, .int .i64 a0_4, .string a0_5] 23 (0, 0))) ∧ Aside0 (Below w.heap.size w wc))
        case first =>
         have H := qx.out
         clear qx
         by_cases c32 : qh = true
         ·subst c32
          have H1 : (coppiceref19_Encode.j3 kj24 true qe x8_24 (a0_0 == 15) a0_0 a0_1 a0_2 a0_3 a0_4 a0_5) = some (r1, r2) := by rw [if_pos rfl] at H; exact H
          clear H
          have H := H1
          clear H1
          have H' := Aside0.mk H
          clear H
          have hcz33_0 : wc.cell? ⟨qc, 0, none⟩ = some (.int .i64 a0_0) := (blk_cell qb.out 0).trans rfl
          have hcz33_1 : wc.cell? ⟨qc, 1, none⟩ = some (.string a0_1) := (blk_cell qb.out 1).trans rfl
          have hcz33_2 : wc.cell? ⟨qc, 2, none⟩ = some (.string a0_2) := (blk_cell qb.out 2).trans rfl
          have hcz33_3 : wc.cell? ⟨qc, 3, none⟩ = some (.string a0_3) := (blk_cell qb.out 3).trans rfl
          have hcz33_4 : wc.cell? ⟨qc, 4, none⟩ = some (.int .i64 a0_4) := (blk_cell qb.out 4).trans rfl
          have hcz33_5 : wc.cell? ⟨qc, 5, none⟩ = some (.string a0_5) := (blk_cell qb.out 5).trans rfl
          have hfz33_0 := blk_frozen qb.out 0
          have hfz33_1 := blk_frozen qb.out 1
          have hfz33_2 := blk_frozen qb.out 2
          have hfz33_3 := blk_frozen qb.out 3
          have hfz33_4 := blk_frozen qb.out 4
          have hfz33_5 := blk_frozen qb.out 5
          go_wp2
          go_meet
          case rel => exact ⟨_, ((a0_0 == 15)), (by (rfl)), H', ⟨by have := HJ4.out; have := HJ18.out; have := HJ24.out; (omega)⟩, ⟨by exact qb.out⟩, ⟨by repeat (((with_reducible (exact HB.out))))⟩⟩
         ·replace c32 := Bool.eq_false_iff.mpr c32
          subst c32
          have H1 : (coppiceref19_Encode.j3 kj24 false qe x8_24 false a0_0 a0_1 a0_2 a0_3 a0_4 a0_5) = some (r1, r2) := by rw [if_neg (show ¬ (false = true) by decide)] at H; exact H
          clear H
          have H := H1
          clear H1
          have H' := Aside0.mk H
          clear H
          go_wp2
          go_meet
          case rel => exact ⟨_, (false), (by (rfl)), H', ⟨by have := HJ4.out; have := HJ18.out; have := HJ24.out; (omega)⟩, ⟨by exact qb.out⟩, ⟨by repeat (((with_reducible (exact HB.out))))⟩⟩
        case rest =>
         clear qx
         try clear c1
         try clear hcv1
         try clear c2
         try clear p2
         try clear c3
         try clear c11
         try clear hcv12
         try clear c14
         try clear c14b0
         try clear c14b1
         try clear c16
         try clear c16b0
         try clear c16b1
         try clear c16b2
         try clear c20
         try clear c22
         try clear c22b0
         try clear c22b1
         try clear c22b2
         try clear c23
         try clear c24
         try clear c25
         try clear c26
         try clear c28
         try clear c28b0
         try clear c28b1
         try clear c28b2
         try clear c32
         try clear hcz13_0
         try clear hcz13_1
         try clear hcz13_2
         try clear hcz13_3
         try clear hcz13_4
         try clear hcz13_5
         try clear hcz17_0
         try clear hcz17_1
         try clear hcz17_2
         try clear hcz17_3
         try clear hcz17_4
         try clear hcz17_5
         try clear hcz23_0
         try clear hcz23_1
         try clear hcz23_2
         try clear hcz23_3
         try clear hcz23_4
         try clear hcz23_5
         try clear hcz29_0
         try clear hcz29_1
         try clear hcz29_2
         try clear hcz29_3
         try clear hcz29_4
         try clear hcz29_5
         try clear hcz33_0
         try clear hcz33_1
         try clear hcz33_2
         try clear hcz33_3
         try clear hcz33_4
         try clear hcz33_5
         try clear hcz7_0
         try clear hcz7_1
         try clear hcz7_2
         try clear hcz7_3
         try clear hcz7_4
         try clear hcz7_5
         try clear hcz9_0
         try clear hcz9_1
         try clear hcz9_2
         try clear hcz9_3
         try clear hcz9_4
         try clear hcz9_5
         try clear hfz13_0
         try clear hfz13_1
         try clear hfz13_2
         try clear hfz13_3
         try clear hfz13_4
         try clear hfz13_5
         try clear hfz17_0
         try clear hfz17_1
         try clear hfz17_2
         try clear hfz17_3
         try clear hfz17_4
         try clear hfz17_5
         try clear hfz23_0
         try clear hfz23_1
         try clear hfz23_2
         try clear hfz23_3
         try clear hfz23_4
         try clear hfz23_5
         try clear hfz29_0
         try clear hfz29_1
         try clear hfz29_2
         try clear hfz29_3
         try clear hfz29_4
         try clear hfz29_5
         try clear hfz33_0
         try clear hfz33_1
         try clear hfz33_2
         try clear hfz33_3
         try clear hfz33_4
         try clear hfz33_5
         try clear hfz7_0
         try clear hfz7_1
         try clear hfz7_2
         try clear hfz7_3
         try clear hfz7_4
         try clear hfz7_5
         try clear hfz9_0
         try clear hfz9_1
         try clear hfz9_2
         try clear hfz9_3
         try clear hfz9_4
         try clear hfz9_5
         try clear p2
         obtain ⟨kq, qp, rfl, HA, HJ30, qb, HB⟩ := hcut
         cases kq with
         | zero => exact absurd HA.out (by simp [coppiceref19_Encode.j3])
         | succ kj30 =>
          have H := HA.out
          clear HA
          simp only [coppiceref19_Encode.j3] at H
          have qv := Aside0.mk H
          clear H
          go_upto_if 50 with (fail)
          go_cut [8] (fun v8 wc => ∃ (kq : Nat) (x8_33 : ByteArray), v8 = .string x8_33 ∧ Aside0 (coppiceref19_Encode.j4 kq qe x8_33 a0_0 a0_1 a0_2 a0_3 a0_4 a0_5 = some (r1, r2)) ∧ Aside0 (kq ≤ kj30) ∧ Aside0 (wc.heap[qc]? = some (.cells #[.int .i64 a0_0, .string a0_1, .string a0_2, .string a0_3, .int .i64 a0_4, .string a0_5] 23 (0, 0))) ∧ Aside0 (Below w.heap.size w wc))
          case first =>
           have H := qv.out
           clear qv
           by_cases c35 : qp = true
           ·subst c35
            have H1 : ((coppiceref02_Fixed.f kj30 (IntKind.u64.wrap (a0_4))).bind fun qm => (if x8_24.size + qm.size ≤ 9223372036854775807 then (coppiceref19_Encode.j4 kj30 qe (x8_24 ++ qm) a0_0 a0_1 a0_2 a0_3 a0_4 a0_5) else (none))) = some (r1, r2) := by rw [if_pos rfl] at H; exact H
            clear H
            have H := H1
            clear H1
            replace H := Option.bind_eq_some_iff.mp H
            obtain ⟨qm, A360, H⟩ := H
            replace H : (if x8_24.size + qm.size ≤ 9223372036854775807 then (coppiceref19_Encode.j4 kj30 qe (x8_24 ++ qm) a0_0 a0_1 a0_2 a0_3 a0_4 a0_5) else (none)) = some (r1, r2) := H
            have A36 := Aside0.mk A360
            clear A360
            by_cases c37 : x8_24.size + qm.size ≤ 9223372036854775807
            ·rw [if_pos c37] at H
             have c37b0 := eq_true c37
             have c37b1 : decide (x8_24.size + qm.size ≤ 9223372036854775807) = true := decide_eq_true c37
             try have c37b2 : (9223372036854775807 < x8_24.size + qm.size) = False := eq_false (Nat.not_lt.2 c37)
             have H' := Aside0.mk H
             clear H
             have hcz38_0 : wc.cell? ⟨qc, 0, none⟩ = some (.int .i64 a0_0) := (blk_cell qb.out 0).trans rfl
             have hcz38_1 : wc.cell? ⟨qc, 1, none⟩ = some (.string a0_1) := (blk_cell qb.out 1).trans rfl
             have hcz38_2 : wc.cell? ⟨qc, 2, none⟩ = some (.string a0_2) := (blk_cell qb.out 2).trans rfl
             have hcz38_3 : wc.cell? ⟨qc, 3, none⟩ = some (.string a0_3) := (blk_cell qb.out 3).trans rfl
             have hcz38_4 : wc.cell? ⟨qc, 4, none⟩ = some (.int .i64 a0_4) := (blk_cell qb.out 4).trans rfl
             have hcz38_5 : wc.cell? ⟨qc, 5, none⟩ = some (.string a0_5) := (blk_cell qb.out 5).trans rfl
             have hfz38_0 := blk_frozen qb.out 0
             have hfz38_1 := blk_frozen qb.out 1
             have hfz38_2 := blk_frozen qb.out 2
             have hfz38_3 := blk_frozen qb.out 3
             have hfz38_4 := blk_frozen qb.out 4
             have hfz38_5 := blk_frozen qb.out 5
             go_wp2_with (first | ((with_reducible refine gate_callee (f := 26) rfl ?_); refine goesL_ (some 55) rfl rfl Tryz.func26 (by kernel_rfl) rfl #[.int .u64 (IntKind.u64.wrap (a0_4))] rfl (by (try simp only [List.map_toArray, List.map_cons, List.map_nil]); (rfl)) ?_; (with_reducible refine (coppiceref02_Fixed.calls kj30 (IntKind.u64.wrap (a0_4)) qm _ A36.out).mono ?_); rintro e w39 ⟨rfl, hb⟩; refine ⟨_, rfl, ?_⟩; have n0_ := Aside0.mk (blk_below (g := qc) (o := .cells #[.int .i64 a0_0, .string a0_1, .string a0_2, .string a0_3, .int .i64 a0_4, .string a0_5] 23 (0, 0)) (by exact qb.out) hb); have n1_ := Aside0.mk (below_step (by repeat (((with_reducible (exact HB.out))))) hb); clear qb; clear HB; have qb := n0_; have HB := n1_; clear n0_ n1_; (try clear hb); (try clear hb2); (try clear hk); (try clear hi)))
             go_meet
             case rel => exact ⟨_, (x8_24 ++ qm), (by (rfl)), H', ⟨by have := HJ4.out; have := HJ18.out; have := HJ24.out; have := HJ30.out; (omega)⟩, ⟨by exact qb.out⟩, ⟨by repeat (((with_reducible (exact HB.out))))⟩⟩
            ·rw [if_neg c37] at H
             exact absurd H (by simp)
           ·replace c35 := Bool.eq_false_iff.mpr c35
            subst c35
            have H1 : (if qh = true then ((coppiceref02_Short.f (IntKind.u64.wrap (a0_4))).bind fun qi => (if x8_24.size + qi.size ≤ 9223372036854775807 then (coppiceref19_Encode.j4 kj30 qe (x8_24 ++ qi) a0_0 a0_1 a0_2 a0_3 a0_4 a0_5) else (none))) else (coppiceref19_Encode.j4 kj30 qe x8_24 a0_0 a0_1 a0_2 a0_3 a0_4 a0_5)) = some (r1, r2) := by rw [if_neg (show ¬ (false = true) by decide)] at H; exact H
            clear H
            have H := H1
            clear H1
            by_cases c40 : qh = true
            ·subst c40
             have H1 : ((coppiceref02_Short.f (IntKind.u64.wrap (a0_4))).bind fun qi => (if x8_24.size + qi.size ≤ 9223372036854775807 then (coppiceref19_Encode.j4 kj30 qe (x8_24 ++ qi) a0_0 a0_1 a0_2 a0_3 a0_4 a0_5) else (none))) = some (r1, r2) := by rw [if_pos rfl] at H; exact H
             clear H
             have H := H1
             clear H1
             replace H := Option.bind_eq_some_iff.mp H
             obtain ⟨qi, A410, H⟩ := H
             replace H : (if x8_24.size + qi.size ≤ 9223372036854775807 then (coppiceref19_Encode.j4 kj30 qe (x8_24 ++ qi) a0_0 a0_1 a0_2 a0_3 a0_4 a0_5) else (none)) = some (r1, r2) := H
             have A41 := Aside0.mk A410
             clear A410
             by_cases c42 : x8_24.size + qi.size ≤ 9223372036854775807
             ·rw [if_pos c42] at H
              have c42b0 := eq_true c42
              have c42b1 : decide (x8_24.size + qi.size ≤ 9223372036854775807) = true := decide_eq_true c42
              try have c42b2 : (9223372036854775807 < x8_24.size + qi.size) = False := eq_false (Nat.not_lt.2 c42)
              have H' := Aside0.mk H
              clear H
              have hcz43_0 : wc.cell? ⟨qc, 0, none⟩ = some (.int .i64 a0_0) := (blk_cell qb.out 0).trans rfl
              have hcz43_1 : wc.cell? ⟨qc, 1, none⟩ = some (.string a0_1) := (blk_cell qb.out 1).trans rfl
              have hcz43_2 : wc.cell? ⟨qc, 2, none⟩ = some (.string a0_2) := (blk_cell qb.out 2).trans rfl
              have hcz43_3 : wc.cell? ⟨qc, 3, none⟩ = some (.string a0_3) := (blk_cell qb.out 3).trans rfl
              have hcz43_4 : wc.cell? ⟨qc, 4, none⟩ = some (.int .i64 a0_4) := (blk_cell qb.out 4).trans rfl
              have hcz43_5 : wc.cell? ⟨qc, 5, none⟩ = some (.string a0_5) := (blk_cell qb.out 5).trans rfl
              have hfz43_0 := blk_frozen qb.out 0
              have hfz43_1 := blk_frozen qb.out 1
              have hfz43_2 := blk_frozen qb.out 2
              have hfz43_3 := blk_frozen qb.out 3
              have hfz43_4 := blk_frozen qb.out 4
              have hfz43_5 := blk_frozen qb.out 5
              go_wp2_with (first | ((with_reducible refine gate_callee (f := 27) rfl ?_); refine goesL_ (some 62) rfl rfl Tryz.func27 (by kernel_rfl) rfl #[.int .u64 (IntKind.u64.wrap (a0_4))] rfl (by (try simp only [List.map_toArray, List.map_cons, List.map_nil]); (rfl)) ?_; (with_reducible refine (coppiceref02_Short.calls (IntKind.u64.wrap (a0_4)) qi _ A41.out).mono ?_); rintro e w44 ⟨rfl, hb⟩; refine ⟨_, rfl, ?_⟩; have n0_ := Aside0.mk (blk_below (g := qc) (o := .cells #[.int .i64 a0_0, .string a0_1, .string a0_2, .string a0_3, .int .i64 a0_4, .string a0_5] 23 (0, 0)) (by exact qb.out) hb); have n1_ := Aside0.mk (below_step (by repeat (((with_reducible (exact HB.out))))) hb); clear qb; clear HB; have qb := n0_; have HB := n1_; clear n0_ n1_; (try clear hb); (try clear hb2); (try clear hk); (try clear hi)))
              go_meet
              case rel => exact ⟨_, (x8_24 ++ qi), (by (rfl)), H', ⟨by have := HJ4.out; have := HJ18.out; have := HJ24.out; have := HJ30.out; (omega)⟩, ⟨by exact qb.out⟩, ⟨by repeat (((with_reducible (exact HB.out))))⟩⟩
             ·rw [if_neg c42] at H
              exact absurd H (by simp)
            ·replace c40 := Bool.eq_false_iff.mpr c40
             subst c40
             have H1 : (coppiceref19_Encode.j4 kj30 qe x8_24 a0_0 a0_1 a0_2 a0_3 a0_4 a0_5) = some (r1, r2) := by rw [if_neg (show ¬ (false = true) by decide)] at H; exact H
             clear H
             have H := H1
             clear H1
             have H' := Aside0.mk H
             clear H
             go_wp2
             go_meet
             case rel => exact ⟨_, (x8_24), (by (rfl)), H', ⟨by have := HJ4.out; have := HJ18.out; have := HJ24.out; have := HJ30.out; (omega)⟩, ⟨by exact qb.out⟩, ⟨by repeat (((with_reducible (exact HB.out))))⟩⟩
          case rest =>
           clear qv
           try clear c1
           try clear hcv1
           try clear c2
           try clear p2
           try clear c3
           try clear c4
           try clear c11
           try clear hcv12
           try clear c14
           try clear c14b0
           try clear c14b1
           try clear c16
           try clear c16b0
           try clear c16b1
           try clear c16b2
           try clear c20
           try clear c22
           try clear c22b0
           try clear c22b1
           try clear c22b2
           try clear c23
           try clear c24
           try clear c25
           try clear c26
           try clear c27
           try clear c28
           try clear c28b0
           try clear c28b1
           try clear c28b2
           try clear c32
           try clear c35
           try clear c37
           try clear c37b0
           try clear c37b1
           try clear c37b2
           try clear c40
           try clear c42
           try clear c42b0
           try clear c42b1
           try clear c42b2
           try clear hcz13_0
           try clear hcz13_1
           try clear hcz13_2
           try clear hcz13_3
           try clear hcz13_4
           try clear hcz13_5
           try clear hcz17_0
           try clear hcz17_1
           try clear hcz17_2
           try clear hcz17_3
           try clear hcz17_4
           try clear hcz17_5
           try clear hcz23_0
           try clear hcz23_1
           try clear hcz23_2
           try clear hcz23_3
           try clear hcz23_4
           try clear hcz23_5
           try clear hcz29_0
           try clear hcz29_1
           try clear hcz29_2
           try clear hcz29_3
           try clear hcz29_4
           try clear hcz29_5
           try clear hcz33_0
           try clear hcz33_1
           try clear hcz33_2
           try clear hcz33_3
           try clear hcz33_4
           try clear hcz33_5
           try clear hcz38_0
           try clear hcz38_1
           try clear hcz38_2
           try clear hcz38_3
           try clear hcz38_4
           try clear hcz38_5
           try clear hcz43_0
           try clear hcz43_1
           try clear hcz43_2
           try clear hcz43_3
           try clear hcz43_4
           try clear hcz43_5
           try clear hcz7_0
           try clear hcz7_1
           try clear hcz7_2
           try clear hcz7_3
           try clear hcz7_4
           try clear hcz7_5
           try clear hcz9_0
           try clear hcz9_1
           try clear hcz9_2
           try clear hcz9_3
           try clear hcz9_4
           try clear hcz9_5
           try clear hfz13_0
           try clear hfz13_1
           try clear hfz13_2
           try clear hfz13_3
           try clear hfz13_4
           try clear hfz13_5
           try clear hfz17_0
           try clear hfz17_1
           try clear hfz17_2
           try clear hfz17_3
           try clear hfz17_4
           try clear hfz17_5
           try clear hfz23_0
           try clear hfz23_1
           try clear hfz23_2
           try clear hfz23_3
           try clear hfz23_4
           try clear hfz23_5
           try clear hfz29_0
           try clear hfz29_1
           try clear hfz29_2
           try clear hfz29_3
           try clear hfz29_4
           try clear hfz29_5
           try clear hfz33_0
           try clear hfz33_1
           try clear hfz33_2
           try clear hfz33_3
           try clear hfz33_4
           try clear hfz33_5
           try clear hfz38_0
           try clear hfz38_1
           try clear hfz38_2
           try clear hfz38_3
           try clear hfz38_4
           try clear hfz38_5
           try clear hfz43_0
           try clear hfz43_1
           try clear hfz43_2
           try clear hfz43_3
           try clear hfz43_4
           try clear hfz43_5
           try clear hfz7_0
           try clear hfz7_1
           try clear hfz7_2
           try clear hfz7_3
           try clear hfz7_4
           try clear hfz7_5
           try clear hfz9_0
           try clear hfz9_1
           try clear hfz9_2
           try clear hfz9_3
           try clear hfz9_4
           try clear hfz9_5
           try clear p2
           obtain ⟨kq, x8_33, rfl, HA, HJ33, qb, HB⟩ := hcut
           cases kq with
           | zero => exact absurd HA.out (by simp [coppiceref19_Encode.j4])
           | succ kj33 =>
            have H := HA.out
            clear HA
            simp only [coppiceref19_Encode.j4] at H
            by_cases c45 : qe = true
            ·subst c45
             have H1 : ((coppiceref02_Text.f a0_5).bind fun qk => (if x8_33.size + qk.size ≤ 9223372036854775807 then ((coppiceref02_Text.f (x8_33 ++ qk)).bind fun qq => (some (qq, 0))) else (none))) = some (r1, r2) := by rw [if_pos rfl] at H; exact H
             clear H
             have H := H1
             clear H1
             replace H := Option.bind_eq_some_iff.mp H
             obtain ⟨qk, A460, H⟩ := H
             replace H : (if x8_33.size + qk.size ≤ 9223372036854775807 then ((coppiceref02_Text.f (x8_33 ++ qk)).bind fun qq => (some (qq, 0))) else (none)) = some (r1, r2) := H
             have A46 := Aside0.mk A460
             clear A460
             by_cases c47 : x8_33.size + qk.size ≤ 9223372036854775807
             ·rw [if_pos c47] at H
              have c47b0 := eq_true c47
              have c47b1 : decide (x8_33.size + qk.size ≤ 9223372036854775807) = true := decide_eq_true c47
              try have c47b2 : (9223372036854775807 < x8_33.size + qk.size) = False := eq_false (Nat.not_lt.2 c47)
              replace H := Option.bind_eq_some_iff.mp H
              obtain ⟨qq, A480, H⟩ := H
              replace H : (some (qq, 0)) = some (r1, r2) := H
              have A48 := Aside0.mk A480
              clear A480
              simp only [Option.some.injEq, Prod.mk.injEq] at H
              obtain ⟨rfl, rfl⟩ := H
              have hcz49_0 : wc.cell? ⟨qc, 0, none⟩ = some (.int .i64 a0_0) := (blk_cell qb.out 0).trans rfl
              have hcz49_1 : wc.cell? ⟨qc, 1, none⟩ = some (.string a0_1) := (blk_cell qb.out 1).trans rfl
              have hcz49_2 : wc.cell? ⟨qc, 2, none⟩ = some (.string a0_2) := (blk_cell qb.out 2).trans rfl
              have hcz49_3 : wc.cell? ⟨qc, 3, none⟩ = some (.string a0_3) := (blk_cell qb.out 3).trans rfl
              have hcz49_4 : wc.cell? ⟨qc, 4, none⟩ = some (.int .i64 a0_4) := (blk_cell qb.out 4).trans rfl
              have hcz49_5 : wc.cell? ⟨qc, 5, none⟩ = some (.string a0_5) := (blk_cell qb.out 5).trans rfl
              have hfz49_0 := blk_frozen qb.out 0
              have hfz49_1 := blk_frozen qb.out 1
              have hfz49_2 := blk_frozen qb.out 2
              have hfz49_3 := blk_frozen qb.out 3
              have hfz49_4 := blk_frozen qb.out 4
              have hfz49_5 := blk_frozen qb.out 5
              go_wp2_with (first | ((with_reducible refine gate_callee (f := 25) rfl ?_); refine goesL_ (some 68) rfl rfl Tryz.func25 (by kernel_rfl) rfl #[.string a0_5] rfl (by (try simp only [List.map_toArray, List.map_cons, List.map_nil]); (rfl)) ?_; (with_reducible refine (coppiceref02_Text.calls a0_5 qk _ A46.out).mono ?_); rintro e w50 ⟨rfl, hb⟩; refine ⟨_, rfl, ?_⟩; have n0_ := Aside0.mk (blk_below (g := qc) (o := .cells #[.int .i64 a0_0, .string a0_1, .string a0_2, .string a0_3, .int .i64 a0_4, .string a0_5] 23 (0, 0)) (by exact qb.out) hb); have n1_ := Aside0.mk (below_step (by repeat (((with_reducible (exact HB.out))))) hb); clear qb; clear HB; have qb := n0_; have HB := n1_; clear n0_ n1_; (try clear hb); (try clear hb2); (try clear hk); (try clear hi)) | ((with_reducible refine gate_callee (f := 25) rfl ?_); refine goesL_ (some 71) rfl rfl Tryz.func25 (by kernel_rfl) rfl #[.string (x8_33 ++ qk)] rfl (by (try simp only [List.map_toArray, List.map_cons, List.map_nil]); (rfl)) ?_; (with_reducible refine (coppiceref02_Text.calls (x8_33 ++ qk) qq _ A48.out).mono ?_); rintro e w51 ⟨rfl, hb⟩; refine ⟨_, rfl, ?_⟩; have n0_ := Aside0.mk (blk_below (g := qc) (o := .cells #[.int .i64 a0_0, .string a0_1, .string a0_2, .string a0_3, .int .i64 a0_4, .string a0_5] 23 (0, 0)) (by exact qb.out) hb); have n1_ := Aside0.mk (below_step (by repeat (((with_reducible (exact HB.out))))) hb); clear qb; clear HB; have qb := n0_; have HB := n1_; clear n0_ n1_; (try clear hb); (try clear hb2); (try clear hk); (try clear hi)))
              go_ret2
              exact ⟨by (rfl), by repeat (((with_reducible (exact HB.out))))⟩
             ·rw [if_neg c47] at H
              exact absurd H (by simp)
            ·replace c45 := Bool.eq_false_iff.mpr c45
             subst c45
             have H1 : ((coppiceref02_Text.f x8_33).bind fun qs => (some (qs, 0))) = some (r1, r2) := by rw [if_neg (show ¬ (false = true) by decide)] at H; exact H
             clear H
             have H := H1
             clear H1
             replace H := Option.bind_eq_some_iff.mp H
             obtain ⟨qs, A520, H⟩ := H
             replace H : (some (qs, 0)) = some (r1, r2) := H
             have A52 := Aside0.mk A520
             clear A520
             simp only [Option.some.injEq, Prod.mk.injEq] at H
             obtain ⟨rfl, rfl⟩ := H
             go_wp2_with (first | ((with_reducible refine gate_callee (f := 25) rfl ?_); refine goesL_ (some 71) rfl rfl Tryz.func25 (by kernel_rfl) rfl #[.string x8_33] rfl (by (try simp only [List.map_toArray, List.map_cons, List.map_nil]); (rfl)) ?_; (with_reducible refine (coppiceref02_Text.calls x8_33 qs _ A52.out).mono ?_); rintro e w53 ⟨rfl, hb⟩; refine ⟨_, rfl, ?_⟩; have n0_ := Aside0.mk (blk_below (g := qc) (o := .cells #[.int .i64 a0_0, .string a0_1, .string a0_2, .string a0_3, .int .i64 a0_4, .string a0_5] 23 (0, 0)) (by exact qb.out) hb); have n1_ := Aside0.mk (below_step (by repeat (((with_reducible (exact HB.out))))) hb); clear qb; clear HB; have qb := n0_; have HB := n1_; clear n0_ n1_; (try clear hb); (try clear hb2); (try clear hk); (try clear hi)))
             go_ret2
             exact ⟨by (rfl), by repeat (((with_reducible (exact HB.out))))⟩
 ·replace c3 := Bool.eq_false_iff.mpr c3
  subst c3
  have H1 : (some ((⟨#[]⟩ : ByteArray), 190)) = some (r1, r2) := by rw [if_neg (show ¬ (false = true) by decide)] at H; exact H
  clear H
  have H := H1
  clear H1
  simp only [Option.some.injEq, Prod.mk.injEq] at H
  obtain ⟨rfl, rfl⟩ := H
  go_enter Tryz.func11, Tryz.ntmps11
  go_wp2_with (first | ((with_reducible refine gate_dst (N := 1) rfl ?_); refine box_event ?hg (N := 1) ?hd (cs := #[.int .i64 a0_0, .string a0_1, .string a0_2, .string a0_3, .int .i64 a0_4, .string a0_5]) (t := 23) ?hr ?_; (case hd => rfl); (case hg => rfl); (case hr => ((go_simp; done))); intro qc hg w54 hbox hb; have n0_ := Aside0.mk (below_step (by repeat (((with_reducible (exact HB.out))))) hb); have n1_ := Aside0.mk (hbox); have n2_ := Aside0.mk ((by rw [hg]; exact (below_size (by repeat (((with_reducible (exact HB.out)))))) : w.heap.size ≤ qc)); have n3_ := Aside0.mk ((by rw [hg]; exact (below_size (by repeat (((with_reducible (exact HB.out)))))) : w.heap.size ≤ qc)); clear HB; have HB := n0_; have qb := n1_; have GW215 := n2_; have qaa := n3_; clear n0_ n1_ n2_ n3_; clear hb hbox hg; have hcz55_0 : w54.cell? ⟨qc, 0, none⟩ = some (.int .i64 a0_0) := (blk_cell qb.out 0).trans rfl; have hcz55_1 : w54.cell? ⟨qc, 1, none⟩ = some (.string a0_1) := (blk_cell qb.out 1).trans rfl; have hcz55_2 : w54.cell? ⟨qc, 2, none⟩ = some (.string a0_2) := (blk_cell qb.out 2).trans rfl; have hcz55_3 : w54.cell? ⟨qc, 3, none⟩ = some (.string a0_3) := (blk_cell qb.out 3).trans rfl; have hcz55_4 : w54.cell? ⟨qc, 4, none⟩ = some (.int .i64 a0_4) := (blk_cell qb.out 4).trans rfl; have hcz55_5 : w54.cell? ⟨qc, 5, none⟩ = some (.string a0_5) := (blk_cell qb.out 5).trans rfl; have hfz55_0 := blk_frozen qb.out 0; have hfz55_1 := blk_frozen qb.out 1; have hfz55_2 := blk_frozen qb.out 2; have hfz55_3 := blk_frozen qb.out 3; have hfz55_4 := blk_frozen qb.out 4; have hfz55_5 := blk_frozen qb.out 5) | ((with_reducible refine gate_callee (f := 23) rfl ?_); refine goesL_ (some 10) rfl rfl Tryz.func23 (by kernel_rfl) rfl #[.agg #[.int .i64 a0_0, .string a0_1, .string a0_2, .string a0_3, .int .i64 a0_4, .string a0_5]] rfl (by (try simp only [List.map_toArray, List.map_cons, List.map_nil]); (rfl)) ?_; (with_reducible refine (coppiceref19_Right.calls k a0_0 a0_1 a0_2 a0_3 a0_4 a0_5 false _ A2.out).mono ?_); rintro e w56 ⟨rfl, hb⟩; refine ⟨_, rfl, ?_⟩; have n0_ := Aside0.mk (blk_below (g := qc) (o := .cells #[.int .i64 a0_0, .string a0_1, .string a0_2, .string a0_3, .int .i64 a0_4, .string a0_5] 23 (0, 0)) (by exact qb.out) hb); have n1_ := Aside0.mk (below_step (by repeat (((with_reducible (exact HB.out))))) hb); clear qb; clear HB; have qb := n0_; have HB := n1_; clear n0_ n1_; (try clear hb); (try clear hb2); (try clear hk); (try clear hi)))
  go_ret2
  exact ⟨by (rfl), by repeat (((with_reducible (exact HB.out))))⟩

end Go.Proofs.YtofdpgcnconibaaGreatDoor.PA
