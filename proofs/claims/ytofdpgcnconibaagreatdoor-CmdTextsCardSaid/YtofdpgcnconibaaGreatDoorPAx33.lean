-- WRITTEN BY a program of this session (pp.sh)
import Derived.Test.YtofdpgcnconibaaGreatDoorPAx0
import Derived.Test.YtofdpgcnconibaaGreatDoorPAx31
import Derived.Test.YtofdpgcnconibaaGreatDoorPAx32
set_option linter.unusedVariables false
set_option linter.unusedSimpArgs false
namespace Go.Proofs.YtofdpgcnconibaaGreatDoor.PA
open Go.RowKit Go.Proofs.YtofdpgcnconibaaGreatDoorW.PrintWords Go.Proofs.YtofdpgcnconibaaGreatDoorW.PrintLast Go.Proofs.YtofdpgcnconibaaGreatDoorW.PrintMore Go.Proofs.YtofdpgcnconibaaGreatDoor.Plain
attribute [local go_sem] max2_int min2_int max_two min_two max_three min_three max_four min_four binOp_leq_s binOp_gtr_s binOp_geq_s lit_byte   -- for this text's walks alone
set_option linter.unusedVariables false
set_option linter.unusedSimpArgs false

/-! ### coppiceref19_Decode: function 15, by hand -/
def noRec2 (e : Int) : Int × ByteArray × ByteArray × ByteArray × Int × ByteArray × Int × Int := (0, ⟨#[]⟩, ⟨#[]⟩, ⟨#[]⟩, 0, ⟨#[]⟩, 0, e)
/-- coppiceref19.Decode. -/
def coppiceref19_Decode.f (k : Nat) (a0 : ByteArray) : Option (Int × ByteArray × ByteArray × ByteArray × Int × ByteArray × Int × Int) :=
  (coppiceref02_Reader_Short.f k a0 0).bind fun q =>
  if q.2.2 = 20 then some (noRec2 20) else
  if q.2.2 = 0 then
    if 0 ≤ q.1 ∧ q.2.1.size ≤ 4611686018427387904 then
      if q.1 > (q.2.1.size : Int) then some (noRec2 20) else
      (coppiceref19_body.f k (q.2.1.extract 0 q.1.toNat)).bind fun c =>
        if c.2.2.2.2.2.2 = 0 then some (c.1, c.2.1, c.2.2.1, c.2.2.2.1, c.2.2.2.2.1, c.2.2.2.2.2.1, wrap64 (wrap64 ((a0.size : Int) - (q.2.1.size : Int)) + wrap64 q.1), 0) else some (noRec2 c.2.2.2.2.2.2)
    else none
  else some (noRec2 190)
set_option maxHeartbeats 8000000 in
set_option maxRecDepth 100000 in
theorem coppiceref19_Decode.short (k : Nat) (a0 : ByteArray) (w : World) (n : Int) (R : ByteArray) (HS : Aside0 (coppiceref02_Reader_Short.f k a0 0 = some (n, R, 20))) :
    Calls Tryz.prog 15 #[.string a0] w fun e w' => e = .returned (.tuple #[.agg #[.int .i64 0, .string ⟨#[]⟩, .string ⟨#[]⟩, .string ⟨#[]⟩, .int .i64 0, .string ⟨#[]⟩], .int .i64 0, .int .i64 20]) ∧ Below w.heap.size w w' := by
  have hw0 := Aside0.mk (show Below w.heap.size w (w.alloc (.cells #[.int .i64 0, .string ⟨#[]⟩, .string ⟨#[]⟩, .string ⟨#[]⟩, .int .i64 0, .string ⟨#[]⟩] 23)) from (Below.refl _ w).alloc (Nat.le_refl _) _)
  have hk0 := Aside0.mk (show (w.alloc (.cells #[.int .i64 0, .string ⟨#[]⟩, .string ⟨#[]⟩, .string ⟨#[]⟩, .int .i64 0, .string ⟨#[]⟩] 23)).heap[w.heap.size]? = some (.cells #[.int .i64 0, .string ⟨#[]⟩, .string ⟨#[]⟩, .string ⟨#[]⟩, .int .i64 0, .string ⟨#[]⟩] 23 (0, 0)) by simpa using heap_alloc_new w _)
  go_enter Tryz.func15, Tryz.ntmps15
  go_upto_region 2 with (fail)
  have d1 := DS.start hw0.out hk0.out (Nat.le_refl _) (blk_new (w.alloc (.cells #[.int .i64 0, .string ⟨#[]⟩, .string ⟨#[]⟩, .string ⟨#[]⟩, .int .i64 0, .string ⟨#[]⟩] 23)) (.cells #[.string a0, .int .i64 0] 69)) (Nat.le_refl _) (below_alloc (Below.refl _ _) _)
  have hg : (w.alloc (.cells #[.int .i64 0, .string ⟨#[]⟩, .string ⟨#[]⟩, .string ⟨#[]⟩, .int .i64 0, .string ⟨#[]⟩] 23)).heap.size = w.heap.size + 1 := by simp
  rw [hg] at d1
  generalize hw1 : (w.alloc (.cells #[.int .i64 0, .string ⟨#[]⟩, .string ⟨#[]⟩, .string ⟨#[]⟩, .int .i64 0, .string ⟨#[]⟩] 23)).alloc (.cells #[.string a0, .int .i64 0] 69) = w1 at d1 ⊢
  generalize hg1 : w.heap.size + 1 = g at d1 ⊢
  clear hw1 hg1 hg hk0 hw0
  go_wp2_with ((go_at_call 30; refine (coppiceref02_Reader_Short.calls k g a0 0 _ _ _ w _ (isR_mk d1.hr d1.rge) d1.hB HS.out).mono ?_; rintro e w2 ⟨rfl, hI, hB, hk⟩; have d2 := d1.keep hk hI.1 hB; have cg0 := (blk_cell d2.hr 0).trans rfl; have cg1 := (blk_cell d2.hr 1).trans rfl; have cR0 := (d2.cell (.head _) 0).trans rfl; have cR1 := (d2.cell (.head _) 1).trans rfl; have cR2 := (d2.cell (.head _) 2).trans rfl; have cR3 := (d2.cell (.head _) 3).trans rfl; have cR4 := (d2.cell (.head _) 4).trans rfl; have cR5 := (d2.cell (.head _) 5).trans rfl; have fR0 := d2.fro (.head _) 0; have fR1 := d2.fro (.head _) 1; have fR2 := d2.fro (.head _) 2; have fR3 := d2.fro (.head _) 3; have fR4 := d2.fro (.head _) 4; have fR5 := d2.fro (.head _) 5; clear hI hB hk))
  have dz := DS.set6 [] d2 (.int .i64 0) (.string ⟨#[]⟩) (.string ⟨#[]⟩) (.string ⟨#[]⟩) (.int .i64 0) (.string ⟨#[]⟩)
  dsimp only [List.cons_append, List.nil_append] at dz
  refine bodyPost_ret (results_ctt rfl _ _ w.heap.size 23 #[.int .i64 0, .string ⟨#[]⟩, .string ⟨#[]⟩, .string ⟨#[]⟩, .int .i64 0, .string ⟨#[]⟩] (0, 0) _ rfl (dz.blk (.head _)) Tryz.underlying23 rfl (by kernel_rfl)) rfl ⟨by (rfl), dz.hB⟩

set_option maxHeartbeats 8000000 in
set_option maxRecDepth 100000 in
theorem coppiceref19_Decode.long (k : Nat) (a0 : ByteArray) (w : World) (n : Int) (R : ByteArray) (HS : Aside0 (coppiceref02_Reader_Short.f k a0 0 = some (n, R, 0))) (hz : R.size ≤ 4611686018427387904) (hn : n > (R.size : Int)) :
    Calls Tryz.prog 15 #[.string a0] w fun e w' => e = .returned (.tuple #[.agg #[.int .i64 0, .string ⟨#[]⟩, .string ⟨#[]⟩, .string ⟨#[]⟩, .int .i64 0, .string ⟨#[]⟩], .int .i64 0, .int .i64 20]) ∧ Below w.heap.size w w' := by
  have hw0 := Aside0.mk (show Below w.heap.size w (w.alloc (.cells #[.int .i64 0, .string ⟨#[]⟩, .string ⟨#[]⟩, .string ⟨#[]⟩, .int .i64 0, .string ⟨#[]⟩] 23)) from (Below.refl _ w).alloc (Nat.le_refl _) _)
  have hk0 := Aside0.mk (show (w.alloc (.cells #[.int .i64 0, .string ⟨#[]⟩, .string ⟨#[]⟩, .string ⟨#[]⟩, .int .i64 0, .string ⟨#[]⟩] 23)).heap[w.heap.size]? = some (.cells #[.int .i64 0, .string ⟨#[]⟩, .string ⟨#[]⟩, .string ⟨#[]⟩, .int .i64 0, .string ⟨#[]⟩] 23 (0, 0)) by simpa using heap_alloc_new w _)
  have hwz : IntKind.u64.wrap (R.size : Int) = (R.size : Int) := by rw [wrap_u64]; omega
  have hgt : decide (n > (R.size : Int)) = true := decide_eq_true hn
  clear hn hz
  go_enter Tryz.func15, Tryz.ntmps15
  go_upto_region 2 with (fail)
  have d1 := DS.start hw0.out hk0.out (Nat.le_refl _) (blk_new (w.alloc (.cells #[.int .i64 0, .string ⟨#[]⟩, .string ⟨#[]⟩, .string ⟨#[]⟩, .int .i64 0, .string ⟨#[]⟩] 23)) (.cells #[.string a0, .int .i64 0] 69)) (Nat.le_refl _) (below_alloc (Below.refl _ _) _)
  have hg : (w.alloc (.cells #[.int .i64 0, .string ⟨#[]⟩, .string ⟨#[]⟩, .string ⟨#[]⟩, .int .i64 0, .string ⟨#[]⟩] 23)).heap.size = w.heap.size + 1 := by simp
  rw [hg] at d1
  generalize hw1 : (w.alloc (.cells #[.int .i64 0, .string ⟨#[]⟩, .string ⟨#[]⟩, .string ⟨#[]⟩, .int .i64 0, .string ⟨#[]⟩] 23)).alloc (.cells #[.string a0, .int .i64 0] 69) = w1 at d1 ⊢
  generalize hg1 : w.heap.size + 1 = g at d1 ⊢
  clear hw1 hg1 hg hk0 hw0
  go_wp2_with ((go_at_call 30; refine (coppiceref02_Reader_Short.calls k g a0 0 _ _ _ w _ (isR_mk d1.hr d1.rge) d1.hB HS.out).mono ?_; rintro e w2 ⟨rfl, hI, hB, hk⟩; have d2 := d1.keep hk hI.1 hB; have cg0 := (blk_cell d2.hr 0).trans rfl; have cg1 := (blk_cell d2.hr 1).trans rfl; have cR0 := (d2.cell (.head _) 0).trans rfl; have cR1 := (d2.cell (.head _) 1).trans rfl; have cR2 := (d2.cell (.head _) 2).trans rfl; have cR3 := (d2.cell (.head _) 3).trans rfl; have cR4 := (d2.cell (.head _) 4).trans rfl; have cR5 := (d2.cell (.head _) 5).trans rfl; have fR0 := d2.fro (.head _) 0; have fR1 := d2.fro (.head _) 1; have fR2 := d2.fro (.head _) 2; have fR3 := d2.fro (.head _) 3; have fR4 := d2.fro (.head _) 4; have fR5 := d2.fro (.head _) 5; clear hI hB hk))
  have dz := DS.set6 [] d2 (.int .i64 0) (.string ⟨#[]⟩) (.string ⟨#[]⟩) (.string ⟨#[]⟩) (.int .i64 0) (.string ⟨#[]⟩)
  dsimp only [List.cons_append, List.nil_append] at dz
  refine bodyPost_ret (results_ctt rfl _ _ w.heap.size 23 #[.int .i64 0, .string ⟨#[]⟩, .string ⟨#[]⟩, .string ⟨#[]⟩, .int .i64 0, .string ⟨#[]⟩] (0, 0) _ rfl (dz.blk (.head _)) Tryz.underlying23 rfl (by kernel_rfl)) rfl ⟨by (rfl), dz.hB⟩

set_option maxHeartbeats 8000000 in
set_option maxRecDepth 100000 in
theorem coppiceref19_Decode.form (k : Nat) (a0 : ByteArray) (w : World) (n : Int) (R : ByteArray) (E : Int) (HS : Aside0 (coppiceref02_Reader_Short.f k a0 0 = some (n, R, E))) (h20 : (E == 20) = false) (h0 : (E == 0) = false) (h0b : (E != 0) = true) :
    Calls Tryz.prog 15 #[.string a0] w fun e w' => e = .returned (.tuple #[.agg #[.int .i64 0, .string ⟨#[]⟩, .string ⟨#[]⟩, .string ⟨#[]⟩, .int .i64 0, .string ⟨#[]⟩], .int .i64 0, .int .i64 190]) ∧ Below w.heap.size w w' := by
  have hw0 := Aside0.mk (show Below w.heap.size w (w.alloc (.cells #[.int .i64 0, .string ⟨#[]⟩, .string ⟨#[]⟩, .string ⟨#[]⟩, .int .i64 0, .string ⟨#[]⟩] 23)) from (Below.refl _ w).alloc (Nat.le_refl _) _)
  have hk0 := Aside0.mk (show (w.alloc (.cells #[.int .i64 0, .string ⟨#[]⟩, .string ⟨#[]⟩, .string ⟨#[]⟩, .int .i64 0, .string ⟨#[]⟩] 23)).heap[w.heap.size]? = some (.cells #[.int .i64 0, .string ⟨#[]⟩, .string ⟨#[]⟩, .string ⟨#[]⟩, .int .i64 0, .string ⟨#[]⟩] 23 (0, 0)) by simpa using heap_alloc_new w _)
  go_enter Tryz.func15, Tryz.ntmps15
  go_upto_region 2 with (fail)
  have d1 := DS.start hw0.out hk0.out (Nat.le_refl _) (blk_new (w.alloc (.cells #[.int .i64 0, .string ⟨#[]⟩, .string ⟨#[]⟩, .string ⟨#[]⟩, .int .i64 0, .string ⟨#[]⟩] 23)) (.cells #[.string a0, .int .i64 0] 69)) (Nat.le_refl _) (below_alloc (Below.refl _ _) _)
  have hg : (w.alloc (.cells #[.int .i64 0, .string ⟨#[]⟩, .string ⟨#[]⟩, .string ⟨#[]⟩, .int .i64 0, .string ⟨#[]⟩] 23)).heap.size = w.heap.size + 1 := by simp
  rw [hg] at d1
  generalize hw1 : (w.alloc (.cells #[.int .i64 0, .string ⟨#[]⟩, .string ⟨#[]⟩, .string ⟨#[]⟩, .int .i64 0, .string ⟨#[]⟩] 23)).alloc (.cells #[.string a0, .int .i64 0] 69) = w1 at d1 ⊢
  generalize hg1 : w.heap.size + 1 = g at d1 ⊢
  clear hw1 hg1 hg hk0 hw0
  go_wp2_with ((go_at_call 30; refine (coppiceref02_Reader_Short.calls k g a0 0 _ _ _ w _ (isR_mk d1.hr d1.rge) d1.hB HS.out).mono ?_; rintro e w2 ⟨rfl, hI, hB, hk⟩; have d2 := d1.keep hk hI.1 hB; have cg0 := (blk_cell d2.hr 0).trans rfl; have cg1 := (blk_cell d2.hr 1).trans rfl; have cR0 := (d2.cell (.head _) 0).trans rfl; have cR1 := (d2.cell (.head _) 1).trans rfl; have cR2 := (d2.cell (.head _) 2).trans rfl; have cR3 := (d2.cell (.head _) 3).trans rfl; have cR4 := (d2.cell (.head _) 4).trans rfl; have cR5 := (d2.cell (.head _) 5).trans rfl; have fR0 := d2.fro (.head _) 0; have fR1 := d2.fro (.head _) 1; have fR2 := d2.fro (.head _) 2; have fR3 := d2.fro (.head _) 3; have fR4 := d2.fro (.head _) 4; have fR5 := d2.fro (.head _) 5; clear hI hB hk))
  have dz := DS.set6 [] d2 (.int .i64 0) (.string ⟨#[]⟩) (.string ⟨#[]⟩) (.string ⟨#[]⟩) (.int .i64 0) (.string ⟨#[]⟩)
  dsimp only [List.cons_append, List.nil_append] at dz
  refine bodyPost_ret (results_ctt rfl _ _ w.heap.size 23 #[.int .i64 0, .string ⟨#[]⟩, .string ⟨#[]⟩, .string ⟨#[]⟩, .int .i64 0, .string ⟨#[]⟩] (0, 0) _ rfl (dz.blk (.head _)) Tryz.underlying23 rfl (by kernel_rfl)) rfl ⟨by (rfl), dz.hB⟩

set_option maxHeartbeats 8000000 in
set_option maxRecDepth 100000 in
theorem coppiceref19_Decode.bad (k : Nat) (a0 : ByteArray) (w : World) (n : Int) (R : ByteArray) (HS : Aside0 (coppiceref02_Reader_Short.f k a0 0 = some (n, R, 0))) (hz : R.size ≤ 4611686018427387904) (hn0 : 0 ≤ n) (hn : n ≤ (R.size : Int)) (c0 : Int) (c1 c2 c3 : ByteArray) (c4 : Int) (c5 : ByteArray) (E : Int) (HB : Aside0 (coppiceref19_body.f k (R.extract 0 n.toNat) = some (c0, c1, c2, c3, c4, c5, E))) (hE : (E != 0) = true) :
    Calls Tryz.prog 15 #[.string a0] w fun e w' => e = .returned (.tuple #[.agg #[.int .i64 0, .string ⟨#[]⟩, .string ⟨#[]⟩, .string ⟨#[]⟩, .int .i64 0, .string ⟨#[]⟩], .int .i64 0, .int .i64 E]) ∧ Below w.heap.size w w' := by
  have hw0 := Aside0.mk (show Below w.heap.size w (w.alloc (.cells #[.int .i64 0, .string ⟨#[]⟩, .string ⟨#[]⟩, .string ⟨#[]⟩, .int .i64 0, .string ⟨#[]⟩] 23)) from (Below.refl _ w).alloc (Nat.le_refl _) _)
  have hk0 := Aside0.mk (show (w.alloc (.cells #[.int .i64 0, .string ⟨#[]⟩, .string ⟨#[]⟩, .string ⟨#[]⟩, .int .i64 0, .string ⟨#[]⟩] 23)).heap[w.heap.size]? = some (.cells #[.int .i64 0, .string ⟨#[]⟩, .string ⟨#[]⟩, .string ⟨#[]⟩, .int .i64 0, .string ⟨#[]⟩] 23 (0, 0)) by simpa using heap_alloc_new w _)
  have hwz : IntKind.u64.wrap (R.size : Int) = (R.size : Int) := by rw [wrap_u64]; omega
  have hgt : decide (n > (R.size : Int)) = false := decide_eq_false (by omega)
  go_enter Tryz.func15, Tryz.ntmps15
  go_upto_region 2 with (fail)
  have d1 := DS.start hw0.out hk0.out (Nat.le_refl _) (blk_new (w.alloc (.cells #[.int .i64 0, .string ⟨#[]⟩, .string ⟨#[]⟩, .string ⟨#[]⟩, .int .i64 0, .string ⟨#[]⟩] 23)) (.cells #[.string a0, .int .i64 0] 69)) (Nat.le_refl _) (below_alloc (Below.refl _ _) _)
  have hg : (w.alloc (.cells #[.int .i64 0, .string ⟨#[]⟩, .string ⟨#[]⟩, .string ⟨#[]⟩, .int .i64 0, .string ⟨#[]⟩] 23)).heap.size = w.heap.size + 1 := by simp
  rw [hg] at d1
  generalize hw1 : (w.alloc (.cells #[.int .i64 0, .string ⟨#[]⟩, .string ⟨#[]⟩, .string ⟨#[]⟩, .int .i64 0, .string ⟨#[]⟩] 23)).alloc (.cells #[.string a0, .int .i64 0] 69) = w1 at d1 ⊢
  generalize hg1 : w.heap.size + 1 = g at d1 ⊢
  clear hw1 hg1 hg hk0 hw0
  go_upto_region 8 with (first
    | (go_at_call 30; refine (coppiceref02_Reader_Short.calls k g a0 0 _ _ _ w _ (isR_mk d1.hr d1.rge) d1.hB HS.out).mono ?_; rintro e w2 ⟨rfl, hI, hB, hk⟩; have d2 := d1.keep hk hI.1 hB; have cg0 := (blk_cell d2.hr 0).trans rfl; have cg1 := (blk_cell d2.hr 1).trans rfl; skip; clear hI hB hk)
    | (go_at_call 31; refine (coppiceref19_body.calls k _ _ _ _ _ _ _ _ _ HB.out).mono ?_; rintro e w3 ⟨rfl, hb⟩; have d3 := d2.below hb; skip; clear hb))
  have d4 := d3.box (.cells #[.int .i64 c0, .string c1, .string c2, .string c3, .int .i64 c4, .string c5] 23)
  generalize hw4 : w3.alloc (.cells #[.int .i64 c0, .string c1, .string c2, .string c3, .int .i64 c4, .string c5] 23) = w4 at d4 ⊢
  clear hw4
  have cR0 := (d4.cell (.tail _ (.head _)) 0).trans rfl; have cR1 := (d4.cell (.tail _ (.head _)) 1).trans rfl; have cR2 := (d4.cell (.tail _ (.head _)) 2).trans rfl; have cR3 := (d4.cell (.tail _ (.head _)) 3).trans rfl; have cR4 := (d4.cell (.tail _ (.head _)) 4).trans rfl; have cR5 := (d4.cell (.tail _ (.head _)) 5).trans rfl; have fR0 := d4.fro (.tail _ (.head _)) 0; have fR1 := d4.fro (.tail _ (.head _)) 1; have fR2 := d4.fro (.tail _ (.head _)) 2; have fR3 := d4.fro (.tail _ (.head _)) 3; have fR4 := d4.fro (.tail _ (.head _)) 4; have fR5 := d4.fro (.tail _ (.head _)) 5
  go_wp2
  have dz := DS.set6 [_] d4 (.int .i64 0) (.string ⟨#[]⟩) (.string ⟨#[]⟩) (.string ⟨#[]⟩) (.int .i64 0) (.string ⟨#[]⟩)
  dsimp only [List.cons_append, List.nil_append] at dz
  refine bodyPost_ret (results_ctt rfl _ _ w.heap.size 23 #[.int .i64 0, .string ⟨#[]⟩, .string ⟨#[]⟩, .string ⟨#[]⟩, .int .i64 0, .string ⟨#[]⟩] (0, 0) _ rfl (dz.blk (.tail _ (.head _))) Tryz.underlying23 rfl (by kernel_rfl)) rfl ⟨by (rfl), dz.hB⟩

set_option maxHeartbeats 8000000 in
set_option maxRecDepth 100000 in
theorem coppiceref19_Decode.good (k : Nat) (a0 : ByteArray) (w : World) (n : Int) (R : ByteArray) (HS : Aside0 (coppiceref02_Reader_Short.f k a0 0 = some (n, R, 0))) (hz : R.size ≤ 4611686018427387904) (hn0 : 0 ≤ n) (hn : n ≤ (R.size : Int)) (c0 : Int) (c1 c2 c3 : ByteArray) (c4 : Int) (c5 : ByteArray) (HB : Aside0 (coppiceref19_body.f k (R.extract 0 n.toNat) = some (c0, c1, c2, c3, c4, c5, 0))) :
    Calls Tryz.prog 15 #[.string a0] w fun e w' => e = .returned (.tuple #[.agg #[.int .i64 c0, .string c1, .string c2, .string c3, .int .i64 c4, .string c5], .int .i64 (wrap64 (wrap64 ((a0.size : Int) - (R.size : Int)) + wrap64 n)), .int .i64 0]) ∧ Below w.heap.size w w' := by
  have hw0 := Aside0.mk (show Below w.heap.size w (w.alloc (.cells #[.int .i64 0, .string ⟨#[]⟩, .string ⟨#[]⟩, .string ⟨#[]⟩, .int .i64 0, .string ⟨#[]⟩] 23)) from (Below.refl _ w).alloc (Nat.le_refl _) _)
  have hk0 := Aside0.mk (show (w.alloc (.cells #[.int .i64 0, .string ⟨#[]⟩, .string ⟨#[]⟩, .string ⟨#[]⟩, .int .i64 0, .string ⟨#[]⟩] 23)).heap[w.heap.size]? = some (.cells #[.int .i64 0, .string ⟨#[]⟩, .string ⟨#[]⟩, .string ⟨#[]⟩, .int .i64 0, .string ⟨#[]⟩] 23 (0, 0)) by simpa using heap_alloc_new w _)
  have hwz : IntKind.u64.wrap (R.size : Int) = (R.size : Int) := by rw [wrap_u64]; omega
  have hgt : decide (n > (R.size : Int)) = false := decide_eq_false (by omega)
  go_enter Tryz.func15, Tryz.ntmps15
  go_upto_region 2 with (fail)
  have d1 := DS.start hw0.out hk0.out (Nat.le_refl _) (blk_new (w.alloc (.cells #[.int .i64 0, .string ⟨#[]⟩, .string ⟨#[]⟩, .string ⟨#[]⟩, .int .i64 0, .string ⟨#[]⟩] 23)) (.cells #[.string a0, .int .i64 0] 69)) (Nat.le_refl _) (below_alloc (Below.refl _ _) _)
  have hg : (w.alloc (.cells #[.int .i64 0, .string ⟨#[]⟩, .string ⟨#[]⟩, .string ⟨#[]⟩, .int .i64 0, .string ⟨#[]⟩] 23)).heap.size = w.heap.size + 1 := by simp
  rw [hg] at d1
  generalize hw1 : (w.alloc (.cells #[.int .i64 0, .string ⟨#[]⟩, .string ⟨#[]⟩, .string ⟨#[]⟩, .int .i64 0, .string ⟨#[]⟩] 23)).alloc (.cells #[.string a0, .int .i64 0] 69) = w1 at d1 ⊢
  generalize hg1 : w.heap.size + 1 = g at d1 ⊢
  clear hw1 hg1 hg hk0 hw0
  go_upto_region 8 with (first
    | (go_at_call 30; refine (coppiceref02_Reader_Short.calls k g a0 0 _ _ _ w _ (isR_mk d1.hr d1.rge) d1.hB HS.out).mono ?_; rintro e w2 ⟨rfl, hI, hB, hk⟩; have d2 := d1.keep hk hI.1 hB; have cg0 := (blk_cell d2.hr 0).trans rfl; have cg1 := (blk_cell d2.hr 1).trans rfl; skip; clear hI hB hk)
    | (go_at_call 31; refine (coppiceref19_body.calls k _ _ _ _ _ _ _ _ _ HB.out).mono ?_; rintro e w3 ⟨rfl, hb⟩; have d3 := d2.below hb; skip; clear hb))
  have d4 := d3.box (.cells #[.int .i64 c0, .string c1, .string c2, .string c3, .int .i64 c4, .string c5] 23)
  generalize hw4 : w3.alloc (.cells #[.int .i64 c0, .string c1, .string c2, .string c3, .int .i64 c4, .string c5] 23) = w4 at d4 ⊢
  generalize hC : w3.heap.size = C at d4 ⊢
  clear hw4 hC
  go_upto_region 10 with (fail)
  have dd := d4.drew
  have zc0 : w4.drew.cell? ⟨C, 0, none⟩ = some (.int .i64 c0) := (dd.cell (.head _) 0).trans rfl; have zc1 : w4.drew.cell? ⟨C, 1, none⟩ = some (.string c1) := (dd.cell (.head _) 1).trans rfl; have zc2 : w4.drew.cell? ⟨C, 2, none⟩ = some (.string c2) := (dd.cell (.head _) 2).trans rfl; have zc3 : w4.drew.cell? ⟨C, 3, none⟩ = some (.string c3) := (dd.cell (.head _) 3).trans rfl; have zc4 : w4.drew.cell? ⟨C, 4, none⟩ = some (.int .i64 c4) := (dd.cell (.head _) 4).trans rfl; have zc5 : w4.drew.cell? ⟨C, 5, none⟩ = some (.string c5) := (dd.cell (.head _) 5).trans rfl; have zc6 : w4.drew.cell? ⟨g, 0, none⟩ = some (.string R) := (blk_cell dd.hr 0).trans rfl
  have cR0 := (d4.cell (.tail _ (.head _)) 0).trans rfl; have cR1 := (d4.cell (.tail _ (.head _)) 1).trans rfl; have cR2 := (d4.cell (.tail _ (.head _)) 2).trans rfl; have cR3 := (d4.cell (.tail _ (.head _)) 3).trans rfl; have cR4 := (d4.cell (.tail _ (.head _)) 4).trans rfl; have cR5 := (d4.cell (.tail _ (.head _)) 5).trans rfl; have fR0 := d4.fro (.tail _ (.head _)) 0; have fR1 := d4.fro (.tail _ (.head _)) 1; have fR2 := d4.fro (.tail _ (.head _)) 2; have fR3 := d4.fro (.tail _ (.head _)) 3; have fR4 := d4.fro (.tail _ (.head _)) 4; have fR5 := d4.fro (.tail _ (.head _)) 5
  go_region_held3 (fun W' => W'.cell? ⟨C, 0, none⟩ = some (.int .i64 c0) ∧ W'.cell? ⟨C, 1, none⟩ = some (.string c1) ∧ W'.cell? ⟨C, 2, none⟩ = some (.string c2) ∧ W'.cell? ⟨C, 3, none⟩ = some (.string c3) ∧ W'.cell? ⟨C, 4, none⟩ = some (.int .i64 c4) ∧ W'.cell? ⟨C, 5, none⟩ = some (.string c5) ∧ W'.cell? ⟨g, 0, none⟩ = some (.string R))
    (first | (with_reducible exact ⟨zc0, zc1, zc2, zc3, zc4, zc5, zc6⟩) | exact ⟨((DS.set6 [_] d4 (.int .i64 c0) (.string c1) (.string c2) (.string c3) (.int .i64 c4) (.string c5)).drew.cell (.head _) 0).trans rfl, ((DS.set6 [_] d4 (.int .i64 c0) (.string c1) (.string c2) (.string c3) (.int .i64 c4) (.string c5)).drew.cell (.head _) 1).trans rfl, ((DS.set6 [_] d4 (.int .i64 c0) (.string c1) (.string c2) (.string c3) (.int .i64 c4) (.string c5)).drew.cell (.head _) 2).trans rfl, ((DS.set6 [_] d4 (.int .i64 c0) (.string c1) (.string c2) (.string c3) (.int .i64 c4) (.string c5)).drew.cell (.head _) 3).trans rfl, ((DS.set6 [_] d4 (.int .i64 c0) (.string c1) (.string c2) (.string c3) (.int .i64 c4) (.string c5)).drew.cell (.head _) 4).trans rfl, ((DS.set6 [_] d4 (.int .i64 c0) (.string c1) (.string c2) (.string c3) (.int .i64 c4) (.string c5)).drew.cell (.head _) 5).trans rfl, (blk_cell (DS.set6 [_] d4 (.int .i64 c0) (.string c1) (.string c2) (.string c3) (.int .i64 c4) (.string c5)).drew.hr 0).trans rfl⟩)
    (fail)
  go_wp2
  have dz := DS.drew (DS.set6 [_] d4 (.int .i64 c0) (.string c1) (.string c2) (.string c3) (.int .i64 c4) (.string c5))
  dsimp only [List.cons_append, List.nil_append] at dz
  refine bodyPost_ret (results_ctt rfl _ _ w.heap.size 23 #[.int .i64 c0, .string c1, .string c2, .string c3, .int .i64 c4, .string c5] (0, 0) _ rfl (dz.blk (.tail _ (.head _))) Tryz.underlying23 rfl (by kernel_rfl)) rfl ⟨by ((simp only [i64_w]; rfl)), dz.hB⟩

set_option maxHeartbeats 1000000 in
theorem coppiceref19_Decode.calls (k : Nat) (a0 : ByteArray) (r1 : Int) (r2 r3 r4 : ByteArray) (r5 : Int) (r6 : ByteArray) (r7 : Int) (r8 : Int) (w : World) (h : coppiceref19_Decode.f k a0 = some (r1, r2, r3, r4, r5, r6, r7, r8)) :
    Calls Tryz.prog 15 #[.string a0] w fun e w' => e = .returned (.tuple #[.agg #[.int .i64 r1, .string r2, .string r3, .string r4, .int .i64 r5, .string r6], .int .i64 r7, .int .i64 r8]) ∧ Below w.heap.size w w' := by
  unfold coppiceref19_Decode.f at h
  obtain ⟨⟨n, R, E⟩, hS, h⟩ := Option.bind_eq_some_iff.1 h
  dsimp only at h
  by_cases h20 : E = 20
  · subst h20
    rw [if_pos rfl] at h
    simp only [noRec2, Option.some.injEq, Prod.mk.injEq] at h
    obtain ⟨rfl, rfl, rfl, rfl, rfl, rfl, rfl, rfl⟩ := h
    exact coppiceref19_Decode.short k a0 w n R ⟨hS⟩
  · rw [if_neg h20] at h
    by_cases h0 : E = 0
    · subst h0
      rw [if_pos rfl] at h
      by_cases hg : 0 ≤ n ∧ R.size ≤ 4611686018427387904
      · rw [if_pos hg] at h
        by_cases hl : n > (R.size : Int)
        · rw [if_pos hl] at h
          simp only [noRec2, Option.some.injEq, Prod.mk.injEq] at h
          obtain ⟨rfl, rfl, rfl, rfl, rfl, rfl, rfl, rfl⟩ := h
          exact coppiceref19_Decode.long k a0 w n R ⟨hS⟩ hg.2 hl
        · rw [if_neg hl] at h
          obtain ⟨⟨c0, c1, c2, c3, c4, c5, c6⟩, hB, h⟩ := Option.bind_eq_some_iff.1 h
          dsimp only at h
          by_cases hc : c6 = 0
          · subst hc
            rw [if_pos rfl] at h
            simp only [Option.some.injEq, Prod.mk.injEq] at h
            obtain ⟨rfl, rfl, rfl, rfl, rfl, rfl, rfl, rfl⟩ := h
            exact coppiceref19_Decode.good k a0 w n R ⟨hS⟩ hg.2 hg.1 (by omega) _ _ _ _ _ _ ⟨hB⟩
          · rw [if_neg hc] at h
            simp only [noRec2, Option.some.injEq, Prod.mk.injEq] at h
            obtain ⟨rfl, rfl, rfl, rfl, rfl, rfl, rfl, rfl⟩ := h
            exact coppiceref19_Decode.bad k a0 w n R ⟨hS⟩ hg.2 hg.1 (by omega) _ _ _ _ _ _ _ ⟨hB⟩ (bne_iff_ne.2 hc)
      · rw [if_neg hg] at h; cases h
    · rw [if_neg h0] at h
      simp only [noRec2, Option.some.injEq, Prod.mk.injEq] at h
      obtain ⟨rfl, rfl, rfl, rfl, rfl, rfl, rfl, rfl⟩ := h
      exact coppiceref19_Decode.form k a0 w n R E ⟨hS⟩ (beq_eq_false_iff_ne.2 h20) (beq_eq_false_iff_ne.2 h0) (bne_iff_ne.2 h0)


/-! ### coppiceref19_All: function 20 -/
def coppiceref19_All.l0 : Nat → ByteArray → List (S23) → Option ((List (S23)) × Int × Int)
 | 0, _, _ => none
 | k + 1, x0, x5 => if x0.toList = ([] : List UInt8) then (some (x5, 0, (-1))) else ((coppiceref19_Decode.f k x0).bind fun bt272 => (if bt272.2.2.2.2.2.2.2 = 0 then (if x5.length < 1759218604441 then (if 0 ≤ bt272.2.2.2.2.2.2.1 then (if bt272.2.2.2.2.2.2.1 ≤ (x0.size : Int) then (coppiceref19_All.l0 k (x0.extract (bt272.2.2.2.2.2.2.1 : Int).toNat x0.size) (x5 ++ [(⟨bt272.1, bt272.2.1, bt272.2.2.1, bt272.2.2.2.1, bt272.2.2.2.2.1, bt272.2.2.2.2.2.1⟩ : S23)])) else (none)) else (none)) else (none)) else (some (([] : List (S23)), bt272.2.2.2.2.2.2.2, (x5.length : Int)))))
def coppiceref19_All.f (k : Nat) (a0 : ByteArray) : Option ((List (S23)) × Int × Int) := coppiceref19_All.l0 k a0 ([] : List (S23))
set_option maxHeartbeats 8000000 in
set_option maxRecDepth 100000 in
theorem coppiceref19_All.calls (k : Nat) (a0 : ByteArray) (r1 : List (S23)) (r2 : Int) (r3 : Int) (w : World) (h : coppiceref19_All.f k a0 = some (r1, r2, r3)) :
  Calls Tryz.prog 20 #[.string a0] w fun e w' => ∃ v0_ : Value, e = .returned (.tuple #[v0_, .int .i64 r2, .int .i64 r3]) ∧ Kd.R k23 23 w' w.heap.size (fun _ => True) v0_ r1 ∧ Below w.heap.size w w' := by
 have hu23 := Tryz.underlying23
 have HB := Aside0.mk (Below.refl w.heap.size w)
 have H : (coppiceref19_All.l0 k a0 ([] : List (S23))) = some (r1, r2, r3) := h
 clear h
 have H' := Aside0.mk H
 clear H
 go_enter Tryz.func20, Tryz.ntmps20
 go_wp2
 go_loopg [0, 5] k (fun kq v0 v5 w' => ∃ (x0_1 : ByteArray) (x5_1 : List (S23)), v0 = .string x0_1 ∧ Aside0 (coppiceref19_All.l0 kq x0_1 x5_1 = some (r1, r2, r3)) ∧ Aside0 (kq ≤ k) ∧ Aside0 (Kd.R k23 23 w' w.heap.size (fun _ => True) v5 x5_1) ∧ Aside0 (Below w.heap.size w w'))
 case atStart => exact ⟨(a0), (([] : List (S23))), (by (rfl)), H', ⟨Nat.le_refl _⟩, ⟨by (exact Kd.R_nil _ _ _ _ _)⟩, ⟨by repeat (((with_reducible (exact HB.out))))⟩⟩
 case round =>
  clear H'
  obtain ⟨x0_1, x5_1, rfl, HA, HK1, HO_5, HB⟩ := hrel
  cases gk with
  | zero => exact absurd HA.out (by simp [coppiceref19_All.l0])
  | succ k1 =>
   have H := HA.out
   clear HA
   simp only [coppiceref19_All.l0] at H
   by_cases c2 : x0_1.toList = ([] : List UInt8)
   ·rw [if_pos c2] at H
    have c2b0 : (x0_1.toList == ([] : List UInt8)) = true := beq_iff_eq.mpr c2
    have c2b1 : (x0_1.toList != ([] : List UInt8)) = false := bne_eq_false_iff_eq.mpr c2
    clear c2
    simp only [Option.some.injEq, Prod.mk.injEq] at H
    obtain ⟨rfl, rfl, rfl⟩ := H
    go_wp2
    go_ret3
    exact ⟨_, by (rfl), by (with_reducible repeat (fail)); exact HO_5.out, by repeat (((with_reducible (exact HB.out))))⟩
   ·rw [if_neg c2] at H
    have c2b0 : (x0_1.toList == ([] : List UInt8)) = false := beq_eq_false_iff_ne.mpr c2
    have c2b1 : (x0_1.toList != ([] : List UInt8)) = true := bne_iff_ne.mpr c2
    replace H := Option.bind_eq_some_iff.mp H
    obtain ⟨⟨t272, t273, t274, t275, t276, t277, t278, t279⟩, A30, H⟩ := H
    replace H : (if t279 = 0 then (if x5_1.length < 1759218604441 then (if 0 ≤ t278 then (if t278 ≤ (x0_1.size : Int) then (coppiceref19_All.l0 k1 (x0_1.extract (t278 : Int).toNat x0_1.size) (x5_1 ++ [(⟨t272, t273, t274, t275, t276, t277⟩ : S23)])) else (none)) else (none)) else (none)) else (some (([] : List (S23)), t279, (x5_1.length : Int)))) = some (r1, r2, r3) := H
    have A3 := Aside0.mk A30
    clear A30
    by_cases c4 : t279 = 0
    ·rw [if_pos c4] at H
     have c4b0 : (t279 == 0) = true := beq_iff_eq.mpr c4
     have c4b1 : (t279 != 0) = false := bne_eq_false_iff_eq.mpr c4
     clear c4
     by_cases c5 : x5_1.length < 1759218604441
     ·rw [if_pos c5] at H
      have LMc5 := Aside0.mk c5
      clear c5
      obtain ⟨y281, hy281⟩ : ∃ y_ : List (S23), y_ = (x5_1 ++ [(⟨t272, t273, t274, t275, t276, t277⟩ : S23)]) := ⟨_, rfl⟩
      replace H : (if 0 ≤ t278 then (if t278 ≤ (x0_1.size : Int) then (coppiceref19_All.l0 k1 (x0_1.extract (t278 : Int).toNat x0_1.size) y281) else (none)) else (none)) = some (r1, r2, r3) := by ((rw [hy281]; with_reducible exact H))
      have Ny281 := Aside0.mk hy281
      clear hy281
      by_cases c6 : 0 ≤ t278
      ·rw [if_pos c6] at H
       have c6b0 := eq_true c6
       have c6b1 : decide (0 ≤ t278) = true := decide_eq_true c6
       clear c6
       by_cases c7 : t278 ≤ (x0_1.size : Int)
       ·rw [if_pos c7] at H
        have c7b0 := eq_true c7
        have c7b1 : decide (t278 ≤ (x0_1.size : Int)) = true := decide_eq_true c7
        clear c7
        have H' := Aside0.mk H
        clear H
        go_wp2_with (first | ((with_reducible refine gate_callee (f := 15) rfl ?_); refine goesL_ (some 13) rfl rfl Tryz.func15 (by kernel_rfl) rfl #[.string x0_1] rfl (by (try simp only [List.map_toArray, List.map_cons, List.map_nil]); (rfl)) ?_; (with_reducible refine (coppiceref19_Decode.calls k1 x0_1 t272 t273 t274 t275 t276 t277 t278 t279 _ A3.out).mono ?_); rintro e w8 ⟨rfl, hb⟩; refine ⟨_, rfl, ?_⟩; have n0_ := Aside0.mk (Kd.R_below (by (with_reducible repeat (fail)); exact HO_5.out) hb); have n1_ := Aside0.mk (below_step (by repeat (((with_reducible (exact HB.out))))) hb); clear HO_5; clear HB; have HO_5 := n0_; have HB := n1_; clear n0_ n1_; (try clear hb); (try clear hb2); (try clear hk); (try clear hi)) | ((with_reducible refine gate_dst (N := 6) rfl ?_); refine box_event ?hg (N := 6) ?hd (cs := #[.int .i64 0, .string (⟨#[]⟩ : ByteArray), .string (⟨#[]⟩ : ByteArray), .string (⟨#[]⟩ : ByteArray), .int .i64 0, .string (⟨#[]⟩ : ByteArray)]) (t := 23) ?hr ?_; (case hd => rfl); (case hg => rfl); (case hr => ((go_simp; done))); intro gb280 hg w9 hbox hb; have n0_ := Aside0.mk (Kd.R_below (Kd.R_elderB (by (with_reducible repeat (fail)); exact HO_5.out) gb280 (Nat.le_of_eq hg.symm)) hb); have n1_ := Aside0.mk (below_step (by repeat (((with_reducible (exact HB.out))))) hb); have n2_ := Aside0.mk (hbox); have n3_ := Aside0.mk ((by rw [hg]; exact (below_size (by repeat (((with_reducible (exact HB.out)))))) : w.heap.size ≤ gb280)); have n4_ := Aside0.mk ((by rw [hg]; exact (below_size (by repeat (((with_reducible (exact HB.out)))))) : w.heap.size ≤ gb280)); clear HO_5; clear HB; have HO_5 := n0_; have HB := n1_; have BK280 := n2_; have GW280 := n3_; have GE280 := n4_; clear n0_ n1_ n2_ n3_ n4_; clear hb hbox hg; have hcz10_0 : w9.cell? ⟨gb280, 0, none⟩ = some (.int .i64 0) := (blk_cell BK280.out 0).trans rfl; have hcz10_1 : w9.cell? ⟨gb280, 1, none⟩ = some (.string (⟨#[]⟩ : ByteArray)) := (blk_cell BK280.out 1).trans rfl; have hcz10_2 : w9.cell? ⟨gb280, 2, none⟩ = some (.string (⟨#[]⟩ : ByteArray)) := (blk_cell BK280.out 2).trans rfl; have hcz10_3 : w9.cell? ⟨gb280, 3, none⟩ = some (.string (⟨#[]⟩ : ByteArray)) := (blk_cell BK280.out 3).trans rfl; have hcz10_4 : w9.cell? ⟨gb280, 4, none⟩ = some (.int .i64 0) := (blk_cell BK280.out 4).trans rfl; have hcz10_5 : w9.cell? ⟨gb280, 5, none⟩ = some (.string (⟨#[]⟩ : ByteArray)) := (blk_cell BK280.out 5).trans rfl; have hfz10_0 := blk_frozen BK280.out 0; have hfz10_1 := blk_frozen BK280.out 1; have hfz10_2 := blk_frozen BK280.out 2; have hfz10_3 := blk_frozen BK280.out 3; have hfz10_4 := blk_frozen BK280.out 4; have hfz10_5 := blk_frozen BK280.out 5) | ((with_reducible refine gate_builtin (b := .append) (xs := #[.tmp 22, .tmp 24]) rfl ?_); at_builtin; refine Kd.R_append k23 (w0 := w) w.heap.size rfl (.tmp 22) (.tmp 24) 26 23 (.agg #[(.int .i64 0), (.string ⟨#[]⟩), (.string ⟨#[]⟩), (.string ⟨#[]⟩), (.int .i64 0), (.string ⟨#[]⟩)]) 80 rfl Tryz.underlying26 info23 rfl (by decide) (by omega) u5 x5_1 (⟨t272, t273, t274, t275, t276, t277⟩ : S23) [.int .i64 t272, .string t273, .string t274, .string t275, .int .i64 t276, .string t277] (fun k_ => k_ ≠ gb280) (fun _ => False) rfl (by ((go_simp; done))) ?aP (fun _ hk => hk.elim) ?aF ?aO ?aB ?aS ?aL ?_; (case aP => exact k23_mkM _ _ _ (⟨t272, t273, t274, t275, t276, t277⟩ : S23)); (case aB => exact (by repeat (((with_reducible first | exact HB.out | refine below_set ?_ GE280.out))))); (case aF => exact (fun k_ hk => Kd.freshB (g := gb280) (o := .cells #[.int .i64 t272, .string t273, .string t274, .string t275, .int .i64 t276, .string t277] 23 (0, 0)) (by (with_reducible repeat (fail)); refine blk_put (cs := #[.int .i64 t272, .string t273, .string t274, .string t275, .int .i64 t276, .string (⟨#[]⟩ : ByteArray)]) ?_ 5 _ rfl; (with_reducible repeat (fail)); refine blk_put (cs := #[.int .i64 t272, .string t273, .string t274, .string t275, .int .i64 0, .string (⟨#[]⟩ : ByteArray)]) ?_ 4 _ rfl; (with_reducible repeat (fail)); refine blk_put (cs := #[.int .i64 t272, .string t273, .string t274, .string (⟨#[]⟩ : ByteArray), .int .i64 0, .string (⟨#[]⟩ : ByteArray)]) ?_ 3 _ rfl; (with_reducible repeat (fail)); refine blk_put (cs := #[.int .i64 t272, .string t273, .string (⟨#[]⟩ : ByteArray), .string (⟨#[]⟩ : ByteArray), .int .i64 0, .string (⟨#[]⟩ : ByteArray)]) ?_ 2 _ rfl; (with_reducible repeat (fail)); refine blk_put (cs := #[.int .i64 t272, .string (⟨#[]⟩ : ByteArray), .string (⟨#[]⟩ : ByteArray), .string (⟨#[]⟩ : ByteArray), .int .i64 0, .string (⟨#[]⟩ : ByteArray)]) ?_ 1 _ rfl; (with_reducible repeat (fail)); refine blk_put (cs := #[.int .i64 0, .string (⟨#[]⟩ : ByteArray), .string (⟨#[]⟩ : ByteArray), .string (⟨#[]⟩ : ByteArray), .int .i64 0, .string (⟨#[]⟩ : ByteArray)]) ?_ 0 _ rfl; (with_reducible repeat (fail)); exact BK280.out) k_ hk)); (case aO => exact (by (with_reducible repeat (fail)); exact Kd.R_mono (Kd.R_far (p := ⟨gb280, 5, none⟩) (Kd.R_far (p := ⟨gb280, 4, none⟩) (Kd.R_far (p := ⟨gb280, 3, none⟩) (Kd.R_far (p := ⟨gb280, 2, none⟩) (Kd.R_far (p := ⟨gb280, 1, none⟩) (Kd.R_far (p := ⟨gb280, 0, none⟩) (Kd.R_mono HO_5.out (fun k_ hk => (⟨hk, hk.2⟩ : _ ∧ k_ ≠ gb280))) (fun _ hk => hk.2) (.int .i64 t272)) (fun _ hk => hk.2) (.string t273)) (fun _ hk => hk.2) (.string t274)) (fun _ hk => hk.2) (.string t275)) (fun _ hk => hk.2) (.int .i64 t276)) (fun _ hk => hk.2) (.string t277)) (fun _ hk => hk.1.2))); (case aS => exact (below_size (by repeat (((with_reducible first | exact HB.out | refine below_set ?_ GE280.out)))))); (case aL => have := LMc5.out; omega); intro v282 w11 ho hb hg hat; rw [← Ny281.out] at ho; have n0_ := Aside0.mk (blk_grown (g := gb280) (o := .cells #[.int .i64 t272, .string t273, .string t274, .string t275, .int .i64 t276, .string t277] 23 (0, 0)) (by (with_reducible repeat (fail)); refine blk_put (cs := #[.int .i64 t272, .string t273, .string t274, .string t275, .int .i64 t276, .string (⟨#[]⟩ : ByteArray)]) ?_ 5 _ rfl; (with_reducible repeat (fail)); refine blk_put (cs := #[.int .i64 t272, .string t273, .string t274, .string t275, .int .i64 0, .string (⟨#[]⟩ : ByteArray)]) ?_ 4 _ rfl; (with_reducible repeat (fail)); refine blk_put (cs := #[.int .i64 t272, .string t273, .string t274, .string (⟨#[]⟩ : ByteArray), .int .i64 0, .string (⟨#[]⟩ : ByteArray)]) ?_ 3 _ rfl; (with_reducible repeat (fail)); refine blk_put (cs := #[.int .i64 t272, .string t273, .string (⟨#[]⟩ : ByteArray), .string (⟨#[]⟩ : ByteArray), .int .i64 0, .string (⟨#[]⟩ : ByteArray)]) ?_ 2 _ rfl; (with_reducible repeat (fail)); refine blk_put (cs := #[.int .i64 t272, .string (⟨#[]⟩ : ByteArray), .string (⟨#[]⟩ : ByteArray), .string (⟨#[]⟩ : ByteArray), .int .i64 0, .string (⟨#[]⟩ : ByteArray)]) ?_ 1 _ rfl; (with_reducible repeat (fail)); refine blk_put (cs := #[.int .i64 0, .string (⟨#[]⟩ : ByteArray), .string (⟨#[]⟩ : ByteArray), .string (⟨#[]⟩ : ByteArray), .int .i64 0, .string (⟨#[]⟩ : ByteArray)]) ?_ 0 _ rfl; (with_reducible repeat (fail)); exact BK280.out) hg (Kd.R_away HO_5.out (fun _ hk => hk.2))); have n1_ := Aside0.mk (hb); have n2_ := Aside0.mk (ho); clear BK280; clear HB; clear HO_5; have BK280 := n0_; have HB := n1_; have HO283 := n2_; clear n0_ n1_ n2_; clear ho hb hg hat))
        go_roundg k1
        case measure => have := HK1.out; omega
        case rel => exact ⟨(x0_1.extract (t278 : Int).toNat x0_1.size), (y281), (by (rfl)), H', ⟨by have := HK1.out; omega⟩, ⟨by (with_reducible repeat (fail)); exact Kd.R_mono HO283.out (fun _ hk => trivial)⟩, ⟨by repeat (((with_reducible (exact HB.out))))⟩⟩
       ·rw [if_neg c7] at H
        exact absurd H (by simp)
      ·rw [if_neg c6] at H
       exact absurd H (by simp)
     ·rw [if_neg c5] at H
      exact absurd H (by simp)
    ·rw [if_neg c4] at H
     have c4b0 : (t279 == 0) = false := beq_eq_false_iff_ne.mpr c4
     have c4b1 : (t279 != 0) = true := bne_iff_ne.mpr c4
     simp only [Option.some.injEq, Prod.mk.injEq] at H
     obtain ⟨rfl, rfl, rfl⟩ := H
     go_wp2_with (first | ((with_reducible refine gate_callee (f := 15) rfl ?_); refine goesL_ (some 13) rfl rfl Tryz.func15 (by kernel_rfl) rfl #[.string x0_1] rfl (by (try simp only [List.map_toArray, List.map_cons, List.map_nil]); (rfl)) ?_; (with_reducible refine (coppiceref19_Decode.calls k1 x0_1 t272 t273 t274 t275 t276 t277 t278 t279 _ A3.out).mono ?_); rintro e w12 ⟨rfl, hb⟩; refine ⟨_, rfl, ?_⟩; have n0_ := Aside0.mk (Kd.R_below (by (with_reducible repeat (fail)); exact HO_5.out) hb); have n1_ := Aside0.mk (below_step (by repeat (((with_reducible (exact HB.out))))) hb); clear HO_5; clear HB; have HO_5 := n0_; have HB := n1_; clear n0_ n1_; (try clear hb); (try clear hb2); (try clear hk); (try clear hi)) | ((with_reducible refine gate_dst (N := 6) rfl ?_); refine box_event ?hg (N := 6) ?hd (cs := #[.int .i64 0, .string (⟨#[]⟩ : ByteArray), .string (⟨#[]⟩ : ByteArray), .string (⟨#[]⟩ : ByteArray), .int .i64 0, .string (⟨#[]⟩ : ByteArray)]) (t := 23) ?hr ?_; (case hd => rfl); (case hg => rfl); (case hr => ((go_simp; done))); intro gb280 hg w13 hbox hb; have n0_ := Aside0.mk (Kd.R_below (Kd.R_elderB (by (with_reducible repeat (fail)); exact HO_5.out) gb280 (Nat.le_of_eq hg.symm)) hb); have n1_ := Aside0.mk (below_step (by repeat (((with_reducible (exact HB.out))))) hb); have n2_ := Aside0.mk (hbox); have n3_ := Aside0.mk ((by rw [hg]; exact (below_size (by repeat (((with_reducible (exact HB.out)))))) : w.heap.size ≤ gb280)); have n4_ := Aside0.mk ((by rw [hg]; exact (below_size (by repeat (((with_reducible (exact HB.out)))))) : w.heap.size ≤ gb280)); clear HO_5; clear HB; have HO_5 := n0_; have HB := n1_; have BK280 := n2_; have GW280 := n3_; have GE280 := n4_; clear n0_ n1_ n2_ n3_ n4_; clear hb hbox hg; have hcz14_0 : w13.cell? ⟨gb280, 0, none⟩ = some (.int .i64 0) := (blk_cell BK280.out 0).trans rfl; have hcz14_1 : w13.cell? ⟨gb280, 1, none⟩ = some (.string (⟨#[]⟩ : ByteArray)) := (blk_cell BK280.out 1).trans rfl; have hcz14_2 : w13.cell? ⟨gb280, 2, none⟩ = some (.string (⟨#[]⟩ : ByteArray)) := (blk_cell BK280.out 2).trans rfl; have hcz14_3 : w13.cell? ⟨gb280, 3, none⟩ = some (.string (⟨#[]⟩ : ByteArray)) := (blk_cell BK280.out 3).trans rfl; have hcz14_4 : w13.cell? ⟨gb280, 4, none⟩ = some (.int .i64 0) := (blk_cell BK280.out 4).trans rfl; have hcz14_5 : w13.cell? ⟨gb280, 5, none⟩ = some (.string (⟨#[]⟩ : ByteArray)) := (blk_cell BK280.out 5).trans rfl; have hfz14_0 := blk_frozen BK280.out 0; have hfz14_1 := blk_frozen BK280.out 1; have hfz14_2 := blk_frozen BK280.out 2; have hfz14_3 := blk_frozen BK280.out 3; have hfz14_4 := blk_frozen BK280.out 4; have hfz14_5 := blk_frozen BK280.out 5; obtain ⟨Ao15, co15, eo15⟩ := Kd.R_slice HO_5.out; subst eo15))
     go_ret3
     exact ⟨_, by (rfl), by (exact Kd.R_nil _ _ _ _ _), by repeat (((with_reducible first | exact HB.out | refine below_set ?_ GE280.out)))⟩

end Go.Proofs.YtofdpgcnconibaaGreatDoor.PA
