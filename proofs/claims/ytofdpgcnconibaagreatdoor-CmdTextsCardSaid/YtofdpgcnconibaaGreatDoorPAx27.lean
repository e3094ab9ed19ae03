-- WRITTEN BY a program of this session (pp.sh)
import Derived.Test.YtofdpgcnconibaaGreatDoorPAx0
import Derived.Test.YtofdpgcnconibaaGreatDoorPAx26
set_option linter.unusedVariables false
set_option linter.unusedSimpArgs false
namespace Go.Proofs.YtofdpgcnconibaaGreatDoor.PA
open Go.RowKit Go.Proofs.YtofdpgcnconibaaGreatDoorW.PrintWords Go.Proofs.YtofdpgcnconibaaGreatDoorW.PrintLast Go.Proofs.YtofdpgcnconibaaGreatDoorW.PrintMore Go.Proofs.YtofdpgcnconibaaGreatDoor.Plain
attribute [local go_sem] max2_int min2_int max_two min_two max_three min_three max_four min_four binOp_leq_s binOp_gtr_s binOp_geq_s lit_byte   -- for this text's walks alone
set_option linter.unusedVariables false
set_option linter.unusedSimpArgs false

/-! ### cmd_All: function 18, by hand -/
-- 18
def cmd_at.f (i : Int) (e : Option Int) : Option (Option (Int × Int)) := some (e.map fun c => (c, i))
def cmd_all.l0 : Nat → ByteArray → List (S23) → Option ((List (S23)) × Option (Int × Int))
 | 0, _, _ => none
 | k + 1, x0, x4 => if x0.toList = ([] : List UInt8) then (some (x4, none)) else ((cmd_decode.f k x0).bind fun bt281 => (if bt281.2.2.2.2.2.2.2.isNone = true then (if x4.length < 1759218604441 then (if 0 ≤ bt281.2.2.2.2.2.2.1 then (if bt281.2.2.2.2.2.2.1 ≤ (x0.size : Int) then (cmd_all.l0 k (x0.extract (bt281.2.2.2.2.2.2.1 : Int).toNat x0.size) (x4 ++ [(⟨bt281.1, bt281.2.1, bt281.2.2.1, bt281.2.2.2.1, bt281.2.2.2.2.1, bt281.2.2.2.2.2.1⟩ : S23)])) else (none)) else (none)) else (none)) else ((cmd_at.f (x4.length : Int) (some (bt281.2.2.2.2.2.2.2.getD 0))).bind fun t294 => (some (([] : List (S23)), t294)))))
def cmd_all.f (k : Nat) (a0 : ByteArray) : Option ((List (S23)) × Option (Int × Int)) := cmd_all.l0 k a0 ([] : List (S23))
def cmd_all.T6 : Bool × List (List Nat × List Nat) := (true, [([], []), ([], []), ([1], [1]), ([0, 2], [0, 2]), ([], []), ([], []), ([4, 5], [4, 5]), ([3, 3, 0, 1, 2, 3], [0, 3]), ([6, 7, 0, 1, 2, 3, 4, 5, 6, 7], [4, 6])])
def cmd_all.B6 : List Nat := [0, 0, 2, 7, 0, 0, 48, 15, 255]
theorem cmd_all.tab6 : rtab .any (opsOf Tryz.f33 6) = cmd_all.T6 := by kernel_rfl
theorem cmd_all.bits6 : waitsOk cmd_all.T6.2 cmd_all.B6 = true := by kernel_rfl
set_option maxHeartbeats 8000000 in
set_option maxRecDepth 100000 in
theorem cmd_all.calls (k : Nat) (a0 : ByteArray) (r1 : List (S23)) (r2 : Option (Int × Int)) (w : World) (hT : Tabs w) (h : cmd_all.f k a0 = some (r1, r2)) :
  Calls Tryz.prog 33 #[.string a0] w fun e w' => ∃ v0_ v1_ : Value, e = .returned (.tuple #[v0_, v1_]) ∧ Kd.R k23 23 w' w.heap.size (fun _ => True) v0_ r1 ∧ TellR.ErrR w' v1_ r2 ∧ Below w.heap.size w w' := by
 have hu23 := Tryz.underlying23
 have hu55 := Tryz.underlying55
 have hu27 := Tryz.underlying27
 have HB := Aside0.mk (Below.refl w.heap.size w)
 have H : (cmd_all.l0 k a0 ([] : List (S23))) = some (r1, r2) := h
 clear h
 have H' := Aside0.mk H
 clear H
 go_enter Tryz.func33, Tryz.ntmps33
 go_wp2
 go_loopg [0, 4] k (fun kq v0 v4 w' => ∃ (x0_1 : ByteArray) (x4_1 : List (S23)), v0 = .string x0_1 ∧ Aside0 (cmd_all.l0 kq x0_1 x4_1 = some (r1, r2)) ∧ Aside0 (kq ≤ k) ∧ Aside0 (Kd.R k23 23 w' w.heap.size (fun _ => True) v4 x4_1) ∧ Aside0 (Below w.heap.size w w'))
 case atStart => exact ⟨(a0), (([] : List (S23))), (by (rfl)), H', ⟨Nat.le_refl _⟩, ⟨by (exact Kd.R_nil _ _ _ _ _)⟩, ⟨by repeat (((with_reducible (exact HB.out))))⟩⟩
 case round =>
  clear H'
  obtain ⟨x0_1, x4_1, rfl, HA, HK1, HO_4, HB⟩ := hrel
  cases gk with
  | zero => exact absurd HA.out (by simp [cmd_all.l0])
  | succ k1 =>
   have H := HA.out
   clear HA
   simp only [cmd_all.l0] at H
   by_cases c2 : x0_1.toList = ([] : List UInt8)
   ·rw [if_pos c2] at H
    have c2b0 : (x0_1.toList == ([] : List UInt8)) = true := beq_iff_eq.mpr c2
    have c2b1 : (x0_1.toList != ([] : List UInt8)) = false := bne_eq_false_iff_eq.mpr c2
    clear c2
    simp only [Option.some.injEq, Prod.mk.injEq] at H
    obtain ⟨rfl, rfl⟩ := H
    go_wp2
    go_ret2
    exact ⟨_, _, rfl, by (with_reducible repeat (fail)); exact HO_4.out, rfl, by repeat (((with_reducible (exact HB.out))))⟩
   ·rw [if_neg c2] at H
    have c2b0 : (x0_1.toList == ([] : List UInt8)) = false := beq_eq_false_iff_ne.mpr c2
    have c2b1 : (x0_1.toList != ([] : List UInt8)) = true := bne_iff_ne.mpr c2
    replace H := Option.bind_eq_some_iff.mp H
    obtain ⟨⟨t281, t282, t283, t284, t285, t286, t287, t288⟩, A30, H⟩ := H
    replace H : (if t288.isNone = true then (if x4_1.length < 1759218604441 then (if 0 ≤ t287 then (if t287 ≤ (x0_1.size : Int) then (cmd_all.l0 k1 (x0_1.extract (t287 : Int).toNat x0_1.size) (x4_1 ++ [(⟨t281, t282, t283, t284, t285, t286⟩ : S23)])) else (none)) else (none)) else (none)) else ((cmd_at.f (x4_1.length : Int) (some (t288.getD 0))).bind fun t294 => (some (([] : List (S23)), t294)))) = some (r1, r2) := H
    have A3 := Aside0.mk A30
    clear A30
    rcases t288 with _ | q290
    ·have H1 : (if x4_1.length < 1759218604441 then (if 0 ≤ t287 then (if t287 ≤ (x0_1.size : Int) then (cmd_all.l0 k1 (x0_1.extract (t287 : Int).toNat x0_1.size) (x4_1 ++ [(⟨t281, t282, t283, t284, t285, t286⟩ : S23)])) else (none)) else (none)) else (none)) = some (r1, r2) := by rw [if_pos (show (none : Option Int).isNone = true by rfl)] at H; exact H
     clear H
     have H := H1
     clear H1
     try simp only [errW_none, errW_some]
     by_cases c4 : x4_1.length < 1759218604441
     ·rw [if_pos c4] at H
      have LMc4 := Aside0.mk c4
      clear c4
      obtain ⟨y291, hy291⟩ : ∃ y_ : List (S23), y_ = (x4_1 ++ [(⟨t281, t282, t283, t284, t285, t286⟩ : S23)]) := ⟨_, rfl⟩
      replace H : (if 0 ≤ t287 then (if t287 ≤ (x0_1.size : Int) then (cmd_all.l0 k1 (x0_1.extract (t287 : Int).toNat x0_1.size) y291) else (none)) else (none)) = some (r1, r2) := by ((rw [hy291]; with_reducible exact H))
      have Ny291 := Aside0.mk hy291
      clear hy291
      by_cases c5 : 0 ≤ t287
      ·rw [if_pos c5] at H
       have c5b0 := eq_true c5
       have c5b1 : decide (0 ≤ t287) = true := decide_eq_true c5
       clear c5
       by_cases c6 : t287 ≤ (x0_1.size : Int)
       ·rw [if_pos c6] at H
        have c6b0 := eq_true c6
        have c6b1 : decide (t287 ≤ (x0_1.size : Int)) = true := decide_eq_true c6
        clear c6
        have H' := Aside0.mk H
        clear H
        try go_wp2_with (first | ((with_reducible refine gate_callee (f := 29) rfl ?_); refine goesL_ (some 12) rfl rfl Tryz.func29 (by kernel_rfl) rfl #[.string x0_1] rfl (by (try simp only [List.map_toArray, List.map_cons, List.map_nil]); (rfl)) ?_; (with_reducible refine (cmd_decode.calls k1 x0_1 t281 t282 t283 t284 t285 t286 t287 none _ ?side1 A3.out).mono ?_); (case side1 => exact Tabs.on hT (by repeat (((with_reducible (exact HB.out)))))); rintro e w7 ⟨rfl, hb⟩; refine ⟨_, rfl, ?_⟩; have n0_ := Aside0.mk (Kd.R_below (by (with_reducible repeat (fail)); exact HO_4.out) hb); have n1_ := Aside0.mk (below_step (by repeat (((with_reducible (exact HB.out))))) hb); clear HO_4; clear HB; have HO_4 := n0_; have HB := n1_; clear n0_ n1_; (try clear hb); (try clear hb2); (try clear hk); (try clear hi); (try simp only [errW_none, errW_some])) | ((with_reducible refine gate_dst (N := 5) rfl ?_); refine box_event ?hg (N := 5) ?hd (cs := #[.int .i64 0, .string (⟨#[]⟩ : ByteArray), .string (⟨#[]⟩ : ByteArray), .string (⟨#[]⟩ : ByteArray), .int .i64 0, .string (⟨#[]⟩ : ByteArray)]) (t := 23) ?hr ?_; (case hd => rfl); (case hg => rfl); (case hr => ((go_simp; done))); intro gb289 hg w8 hbox hb; have n0_ := Aside0.mk (Kd.R_below (Kd.R_elderB (by (with_reducible repeat (fail)); exact HO_4.out) gb289 (Nat.le_of_eq hg.symm)) hb); have n1_ := Aside0.mk (below_step (by repeat (((with_reducible (exact HB.out))))) hb); have n2_ := Aside0.mk (hbox); have n3_ := Aside0.mk ((by rw [hg]; exact (below_size (by repeat (((with_reducible (exact HB.out)))))) : w.heap.size ≤ gb289)); have n4_ := Aside0.mk ((by rw [hg]; exact (below_size (by repeat (((with_reducible (exact HB.out)))))) : w.heap.size ≤ gb289)); clear HO_4; clear HB; have HO_4 := n0_; have HB := n1_; have BK289 := n2_; have GW289 := n3_; have GE289 := n4_; clear n0_ n1_ n2_ n3_ n4_; clear hb hbox hg; have hcz9_0 : w8.cell? ⟨gb289, 0, none⟩ = some (.int .i64 0) := (blk_cell BK289.out 0).trans rfl; have hcz9_1 : w8.cell? ⟨gb289, 1, none⟩ = some (.string (⟨#[]⟩ : ByteArray)) := (blk_cell BK289.out 1).trans rfl; have hcz9_2 : w8.cell? ⟨gb289, 2, none⟩ = some (.string (⟨#[]⟩ : ByteArray)) := (blk_cell BK289.out 2).trans rfl; have hcz9_3 : w8.cell? ⟨gb289, 3, none⟩ = some (.string (⟨#[]⟩ : ByteArray)) := (blk_cell BK289.out 3).trans rfl; have hcz9_4 : w8.cell? ⟨gb289, 4, none⟩ = some (.int .i64 0) := (blk_cell BK289.out 4).trans rfl; have hcz9_5 : w8.cell? ⟨gb289, 5, none⟩ = some (.string (⟨#[]⟩ : ByteArray)) := (blk_cell BK289.out 5).trans rfl; have hfz9_0 := blk_frozen BK289.out 0; have hfz9_1 := blk_frozen BK289.out 1; have hfz9_2 := blk_frozen BK289.out 2; have hfz9_3 := blk_frozen BK289.out 3; have hfz9_4 := blk_frozen BK289.out 4; have hfz9_5 := blk_frozen BK289.out 5))
        have n0_ : Aside0 (Kd.R k23 23 ((((((w8.setCell ⟨gb289, 0, none⟩ (.int .i64 t281)).setCell ⟨gb289, 1, none⟩ (.string t282)).setCell ⟨gb289, 2, none⟩ (.string t283)).setCell ⟨gb289, 3, none⟩ (.string t284)).setCell ⟨gb289, 4, none⟩ (.int .i64 t285)).setCell ⟨gb289, 5, none⟩ (.string t286)) w.heap.size (fun k_ => k_ ≠ gb289) u4 x4_1) := ⟨by (with_reducible repeat (fail)); exact Kd.R_mono (Kd.R_far (p := ⟨gb289, 5, none⟩) (Kd.R_far (p := ⟨gb289, 4, none⟩) (Kd.R_far (p := ⟨gb289, 3, none⟩) (Kd.R_far (p := ⟨gb289, 2, none⟩) (Kd.R_far (p := ⟨gb289, 1, none⟩) (Kd.R_far (p := ⟨gb289, 0, none⟩) (Kd.R_mono HO_4.out (fun k_ hk => (⟨hk, hk.2⟩ : _ ∧ k_ ≠ gb289))) (fun _ hk => hk.2) (.int .i64 t281)) (fun _ hk => hk.2) (.string t282)) (fun _ hk => hk.2) (.string t283)) (fun _ hk => hk.2) (.string t284)) (fun _ hk => hk.2) (.int .i64 t285)) (fun _ hk => hk.2) (.string t286)) (fun _ hk => hk.1.2)⟩
        have n1_ : Aside0 (((((((w8.setCell ⟨gb289, 0, none⟩ (.int .i64 t281)).setCell ⟨gb289, 1, none⟩ (.string t282)).setCell ⟨gb289, 2, none⟩ (.string t283)).setCell ⟨gb289, 3, none⟩ (.string t284)).setCell ⟨gb289, 4, none⟩ (.int .i64 t285)).setCell ⟨gb289, 5, none⟩ (.string t286)).heap[gb289]? = some (.cells #[.int .i64 t281, .string t282, .string t283, .string t284, .int .i64 t285, .string t286] 23 (0, 0))) := ⟨by (with_reducible repeat (fail)); refine blk_put (cs := #[.int .i64 t281, .string t282, .string t283, .string t284, .int .i64 t285, .string (⟨#[]⟩ : ByteArray)]) ?_ 5 _ rfl; (with_reducible repeat (fail)); refine blk_put (cs := #[.int .i64 t281, .string t282, .string t283, .string t284, .int .i64 0, .string (⟨#[]⟩ : ByteArray)]) ?_ 4 _ rfl; (with_reducible repeat (fail)); refine blk_put (cs := #[.int .i64 t281, .string t282, .string t283, .string (⟨#[]⟩ : ByteArray), .int .i64 0, .string (⟨#[]⟩ : ByteArray)]) ?_ 3 _ rfl; (with_reducible repeat (fail)); refine blk_put (cs := #[.int .i64 t281, .string t282, .string (⟨#[]⟩ : ByteArray), .string (⟨#[]⟩ : ByteArray), .int .i64 0, .string (⟨#[]⟩ : ByteArray)]) ?_ 2 _ rfl; (with_reducible repeat (fail)); refine blk_put (cs := #[.int .i64 t281, .string (⟨#[]⟩ : ByteArray), .string (⟨#[]⟩ : ByteArray), .string (⟨#[]⟩ : ByteArray), .int .i64 0, .string (⟨#[]⟩ : ByteArray)]) ?_ 1 _ rfl; (with_reducible repeat (fail)); refine blk_put (cs := #[.int .i64 0, .string (⟨#[]⟩ : ByteArray), .string (⟨#[]⟩ : ByteArray), .string (⟨#[]⟩ : ByteArray), .int .i64 0, .string (⟨#[]⟩ : ByteArray)]) ?_ 0 _ rfl; (with_reducible repeat (fail)); exact BK289.out⟩
        have n2_ : Aside0 (Below w.heap.size w ((((((w8.setCell ⟨gb289, 0, none⟩ (.int .i64 t281)).setCell ⟨gb289, 1, none⟩ (.string t282)).setCell ⟨gb289, 2, none⟩ (.string t283)).setCell ⟨gb289, 3, none⟩ (.string t284)).setCell ⟨gb289, 4, none⟩ (.int .i64 t285)).setCell ⟨gb289, 5, none⟩ (.string t286))) := ⟨by repeat (((with_reducible first | exact HB.out | refine below_set ?_ GE289.out)))⟩
        (try clear HO_4)
        (try clear BK289)
        (try clear HB)
        generalize ((((((w8.setCell ⟨gb289, 0, none⟩ (.int .i64 t281)).setCell ⟨gb289, 1, none⟩ (.string t282)).setCell ⟨gb289, 2, none⟩ (.string t283)).setCell ⟨gb289, 3, none⟩ (.string t284)).setCell ⟨gb289, 4, none⟩ (.int .i64 t285)).setCell ⟨gb289, 5, none⟩ (.string t286)) = w10 at n0_ n1_ n2_ ⊢
        have HO_4 := n0_
        have BK289 := n1_
        have HB := n2_
        clear n0_ n1_ n2_
        have n0_ := Aside0.mk (Kd.R_drew HO_4.out)
        have n1_ := Aside0.mk (blk_drew BK289.out)
        have n2_ := Aside0.mk (below_drew1 HB.out)
        clear HO_4
        clear BK289
        clear HB
        have HO_4 := n0_
        have BK289 := n1_
        have HB := n2_
        clear n0_ n1_ n2_
        refine start_ (n := 9) (S := fun w' => w'.cell? ⟨gb289, 0, none⟩ = some (.int .i64 t281) ∧ w'.cell? ⟨gb289, 1, none⟩ = some (.string t282) ∧ w'.cell? ⟨gb289, 2, none⟩ = some (.string t283) ∧ w'.cell? ⟨gb289, 3, none⟩ = some (.string t284) ∧ w'.cell? ⟨gb289, 4, none⟩ = some (.int .i64 t285) ∧ w'.cell? ⟨gb289, 5, none⟩ = some (.string t286)) (ds := []) #[false, false, false, false, false, false, false, false, false] (by kernel_rfl) rfl rfl ⟨(blk_cell BK289.out 0).trans rfl, (blk_cell BK289.out 1).trans rfl, (blk_cell BK289.out 2).trans rfl, (blk_cell BK289.out 3).trans rfl, (blk_cell BK289.out 4).trans rfl, (blk_cell BK289.out 5).trans rfl⟩ (fun hHeld => ?_); refine with_tabW cmd_all.tab6 cmd_all.bits6 (fun HT_ HW_ => ?_)
        generalize w10.drew = w11 at HO_4 BK289 HB hHeld ⊢
        refine pure_ (i := 0) (N := some 22) (v := ?_) (a' := ?_) #[true, false, false, false, false, false, false, false, false] rfl rfl (any_of HT_.out (by kernel_rfl)) (fun _ _ _ h => h) (Or.inl ⟨by rfl, ?_⟩) ?_ ?_
        rotate_left
        ·intro w'
         go_simp
         with_reducible rfl
        rotate_left
        ·simp only [Act.put, List.setIfInBounds_toArray, List.set_cons_zero, List.set_cons_succ, i64_w, i32_w]
         rfl
        refine pure_ (i := 4) (N := some 26) (v := ?_) (a' := ?_) #[true, false, false, false, true, false, false, false, false] rfl rfl (any_of HT_.out (by kernel_rfl)) (fun _ _ _ h => h) (Or.inl ⟨by rfl, ?_⟩) ?_ ?_
        rotate_left
        ·intro w'
         go_simp
         with_reducible rfl
        rotate_left
        ·simp only [Act.put, List.setIfInBounds_toArray, List.set_cons_zero, List.set_cons_succ, i64_w, i32_w]
         rfl
        refine pure_ (i := 5) (N := some 27) (v := ?_) (a' := ?_) #[true, false, false, false, true, true, false, false, false] rfl rfl (any_of HT_.out (by kernel_rfl)) (fun _ _ _ h => h) (Or.inl ⟨by rfl, ?_⟩) ?_ ?_
        rotate_left
        ·intro w'
         go_simp
         with_reducible rfl
        rotate_left
        ·simp only [Act.put, List.setIfInBounds_toArray, List.set_cons_zero, List.set_cons_succ, i64_w, i32_w]
         rfl
        refine pure_ (i := 6) (N := some 28) (v := ?_) (a' := ?_) #[true, false, false, false, true, true, true, false, false] rfl rfl (any_of HT_.out (by kernel_rfl)) (fun _ _ _ h => h) (Or.inl ⟨by rfl, ?_⟩) ?_ ?_
        rotate_left
        ·intro w'
         go_simp
         with_reducible rfl
        rotate_left
        ·simp only [Act.put, List.setIfInBounds_toArray, List.set_cons_zero, List.set_cons_succ, i64_w, i32_w]
         rfl
        refine take_ (i := 1) (N := some 23) (v := ?_) (a' := ?_) #[true, true, false, false, true, true, true, false, false] rfl rfl (take_ofW HT_.out HW_.out (by kernel_rfl)) (fun _ _ _ h => h) (Or.inl ⟨by rfl, ?_⟩) hHeld ?_ ?_
        rotate_left
        ·rintro w' ⟨s0, s1, s2, s3, s4, s5⟩
         go_simp
         with_reducible rfl
        rotate_left
        ·simp only [Act.put, List.setIfInBounds_toArray, List.set_cons_zero, List.set_cons_succ, i64_w, i32_w]
         rfl
        refine one_ (i := 2) (N := some 24) #[true, true, true, false, true, true, true, false, false] rfl rfl (one_of HT_.out (by kernel_rfl)) (by decide) (fun K hK => ?_)
        refine value_ (w1 := ?_) (v := ?_) (by rfl) rfl ?_ ?_
        rotate_left 2
        ·go_simp
         constructor
         ·rfl
         ·rfl
        refine hK.out _ _ ⟨(blk_cell (blk_alloc BK289.out _) 0).trans rfl, (blk_cell (blk_alloc BK289.out _) 1).trans rfl, (blk_cell (blk_alloc BK289.out _) 2).trans rfl, (blk_cell (blk_alloc BK289.out _) 3).trans rfl, (blk_cell (blk_alloc BK289.out _) 4).trans rfl, (blk_cell (blk_alloc BK289.out _) 5).trans rfl⟩ (fun hHeld => ?_)
        clear hK K
        refine norm_ (a' := ?_) ?_ ?_
        rotate_left
        ·show Act.put _ (some 24) _ = _
         simp only [Act.put, List.setIfInBounds_toArray, List.set_cons_zero, List.set_cons_succ, i64_w, i32_w]
         rfl
        refine one_ (i := 3) (N := some 25) #[true, true, true, true, true, true, true, false, false] rfl rfl (one_of HT_.out (by kernel_rfl)) (by decide) (fun K hK => ?_)
        refine Kd.R_append_step k23 (w0 := w) w.heap.size (by rfl) (.tmp 22) (.tmp 24) 26 23 (.agg #[(.int .i64 0), (.string ⟨#[]⟩), (.string ⟨#[]⟩), (.string ⟨#[]⟩), (.int .i64 0), (.string ⟨#[]⟩)]) 80 rfl Tryz.underlying26 info23 rfl (by decide) (by omega) u4 x4_1 (⟨t281, t282, t283, t284, t285, t286⟩ : S23) [.int .i64 t281, .string t282, .string t283, .string t284, .int .i64 t285, .string t286] (fun k_ => k_ ≠ gb289) (fun _ => False) rfl rfl ?aP (fun _ hk => hk.elim) ?aF ?aO ?aB ?aS ?aL ?_
        (case aP => exact k23_mkM _ _ _ (⟨t281, t282, t283, t284, t285, t286⟩ : S23))
        (case aB => exact (by repeat (((with_reducible (exact HB.out))))))
        (case aF => exact (fun k_ hk => Kd.freshB (g := gb289) (o := .cells #[.int .i64 t281, .string t282, .string t283, .string t284, .int .i64 t285, .string t286] 23 (0, 0)) (by (with_reducible repeat (fail)); exact BK289.out) k_ hk))
        (case aO => exact (by (with_reducible repeat (fail)); exact HO_4.out))
        (case aS => exact (below_size (by repeat (((with_reducible (exact HB.out)))))))
        (case aL => have := LMc4.out; omega)
        intro v292 w12 ho hb hg hat
        rw [← Ny291.out] at ho
        have n0_ := Aside0.mk (blk_grown (g := gb289) (o := .cells #[.int .i64 t281, .string t282, .string t283, .string t284, .int .i64 t285, .string t286] 23 (0, 0)) (by (with_reducible repeat (fail)); exact BK289.out) hg (Kd.R_away HO_4.out (fun _ hk => hk)))
        have n1_ := Aside0.mk (hb)
        have n2_ := Aside0.mk (ho)
        clear BK289
        clear HB
        clear HO_4
        have BK289 := n0_
        have HB := n1_
        have HO293 := n2_
        clear n0_ n1_ n2_
        clear ho hb hg hat
        refine hK.out _ _ ⟨(blk_cell BK289.out 0).trans rfl, (blk_cell BK289.out 1).trans rfl, (blk_cell BK289.out 2).trans rfl, (blk_cell BK289.out 3).trans rfl, (blk_cell BK289.out 4).trans rfl, (blk_cell BK289.out 5).trans rfl⟩ (fun hHeld => ?_)
        clear hK K
        refine norm_ (a' := ?_) ?_ ?_
        rotate_left
        ·show Act.put _ (some 25) _ = _
         simp only [Act.put, List.setIfInBounds_toArray, List.set_cons_zero, List.set_cons_succ, i64_w, i32_w]
         rfl
        refine pure_ (i := 7) (N := some 4) (v := ?_) (a' := ?_) #[true, true, true, true, true, true, true, true, false] rfl rfl (any_of HT_.out (by kernel_rfl)) (fun _ _ _ h => h) (Or.inl ⟨by rfl, ?_⟩) ?_ ?_
        rotate_left
        ·intro w'
         go_simp
         with_reducible rfl
        rotate_left
        ·simp only [Act.put, List.setIfInBounds_toArray, List.set_cons_zero, List.set_cons_succ, i64_w, i32_w]
         rfl
        refine pure_ (i := 8) (N := some 0) (v := ?_) (a' := ?_) #[true, true, true, true, true, true, true, true, true] rfl rfl (any_of HT_.out (by kernel_rfl)) (fun _ _ _ h => h) (Or.inl ⟨by rfl, ?_⟩) ?_ ?_
        rotate_left
        ·intro w'
         go_simp
         with_reducible rfl
        rotate_left
        ·simp only [Act.put, List.setIfInBounds_toArray, List.set_cons_zero, List.set_cons_succ, i64_w, i32_w]
         rfl
        refine done_ (done_of HT_.out (by kernel_rfl)) ?_
        try go_wp2
        go_roundg k1
        case measure => have := HK1.out; omega
        case rel => exact ⟨(x0_1.extract (t287 : Int).toNat x0_1.size), (y291), (by (rfl)), H', ⟨by have := HK1.out; omega⟩, ⟨by (with_reducible repeat (fail)); exact Kd.R_mono HO293.out (fun _ hk => trivial)⟩, ⟨by repeat (((with_reducible (exact HB.out))))⟩⟩
       ·rw [if_neg c6] at H
        exact absurd H (by simp)
      ·rw [if_neg c5] at H
       exact absurd H (by simp)
     ·rw [if_neg c4] at H
      exact absurd H (by simp)
    ·have H1 : ((cmd_at.f (x4_1.length : Int) (some q290)).bind fun t294 => (some (([] : List (S23)), t294))) = some (r1, r2) := by rw [if_neg (show ¬ (some q290).isNone = true by simp)] at H; exact H
     clear H
     have H := H1
     clear H1
     try simp only [errW_none, errW_some]
     replace H := Option.bind_eq_some_iff.mp H
     obtain ⟨t294, A130, H⟩ := H
     replace H : (some (([] : List (S23)), t294)) = some (r1, r2) := H
     have A13 := Aside0.mk A130
     clear A130
     simp only [Option.some.injEq, Prod.mk.injEq] at H
     obtain ⟨rfl, rfl⟩ := H
     obtain rfl : some (q290, (x4_1.length : Int)) = t294 := Option.some.inj A13.out
     go_wp2_with (first | ((with_reducible refine gate_callee (f := 29) rfl ?_); refine goesL_ (some 12) rfl rfl Tryz.func29 (by kernel_rfl) rfl #[.string x0_1] rfl (by (try simp only [List.map_toArray, List.map_cons, List.map_nil]); (rfl)) ?_; (with_reducible refine (cmd_decode.calls k1 x0_1 t281 t282 t283 t284 t285 t286 t287 (some q290) _ ?side1 A3.out).mono ?_); (case side1 => exact Tabs.on hT (by repeat (((with_reducible (exact HB.out)))))); rintro e w14 ⟨rfl, hb⟩; refine ⟨_, rfl, ?_⟩; have n0_ := Aside0.mk (Kd.R_below (by (with_reducible repeat (fail)); exact HO_4.out) hb); have n1_ := Aside0.mk (below_step (by repeat (((with_reducible (exact HB.out))))) hb); clear HO_4; clear HB; have HO_4 := n0_; have HB := n1_; clear n0_ n1_; (try clear hb); (try clear hb2); (try clear hk); (try clear hi); (try simp only [errW_none, errW_some])) | ((with_reducible refine gate_dst (N := 5) rfl ?_); refine box_event ?hg (N := 5) ?hd (cs := #[.int .i64 0, .string (⟨#[]⟩ : ByteArray), .string (⟨#[]⟩ : ByteArray), .string (⟨#[]⟩ : ByteArray), .int .i64 0, .string (⟨#[]⟩ : ByteArray)]) (t := 23) ?hr ?_; (case hd => rfl); (case hg => rfl); (case hr => ((go_simp; done))); intro gb289 hg w15 hbox hb; have n0_ := Aside0.mk (Kd.R_below (Kd.R_elderB (by (with_reducible repeat (fail)); exact HO_4.out) gb289 (Nat.le_of_eq hg.symm)) hb); have n1_ := Aside0.mk (below_step (by repeat (((with_reducible (exact HB.out))))) hb); have n2_ := Aside0.mk (hbox); have n3_ := Aside0.mk ((by rw [hg]; exact (below_size (by repeat (((with_reducible (exact HB.out)))))) : w.heap.size ≤ gb289)); have n4_ := Aside0.mk ((by rw [hg]; exact (below_size (by repeat (((with_reducible (exact HB.out)))))) : w.heap.size ≤ gb289)); clear HO_4; clear HB; have HO_4 := n0_; have HB := n1_; have BK289 := n2_; have GW289 := n3_; have GE289 := n4_; clear n0_ n1_ n2_ n3_ n4_; clear hb hbox hg; have hcz16_0 : w15.cell? ⟨gb289, 0, none⟩ = some (.int .i64 0) := (blk_cell BK289.out 0).trans rfl; have hcz16_1 : w15.cell? ⟨gb289, 1, none⟩ = some (.string (⟨#[]⟩ : ByteArray)) := (blk_cell BK289.out 1).trans rfl; have hcz16_2 : w15.cell? ⟨gb289, 2, none⟩ = some (.string (⟨#[]⟩ : ByteArray)) := (blk_cell BK289.out 2).trans rfl; have hcz16_3 : w15.cell? ⟨gb289, 3, none⟩ = some (.string (⟨#[]⟩ : ByteArray)) := (blk_cell BK289.out 3).trans rfl; have hcz16_4 : w15.cell? ⟨gb289, 4, none⟩ = some (.int .i64 0) := (blk_cell BK289.out 4).trans rfl; have hcz16_5 : w15.cell? ⟨gb289, 5, none⟩ = some (.string (⟨#[]⟩ : ByteArray)) := (blk_cell BK289.out 5).trans rfl; have hfz16_0 := blk_frozen BK289.out 0; have hfz16_1 := blk_frozen BK289.out 1; have hfz16_2 := blk_frozen BK289.out 2; have hfz16_3 := blk_frozen BK289.out 3; have hfz16_4 := blk_frozen BK289.out 4; have hfz16_5 := blk_frozen BK289.out 5; obtain ⟨Ao17, co17, eo17⟩ := Kd.R_slice HO_4.out; subst eo17; have CA13 := fun W (hW_ : Tabs W) => TellR.at_ q290 (x4_1.length : Int) W hW_) | (go_at_call 63; (with_reducible refine (CA13 _ ?side1).mono ?_); (case side1 => exact Tabs.on hT (by repeat (((with_reducible first | exact HB.out | refine below_set ?_ GE289.out))))); rintro e w18 ⟨ve_, rfl, hE_, hb⟩; have HE_ := Aside0.mk hE_; clear hE_; have n0_ := Aside0.mk (Kd.R_below (by (with_reducible repeat (fail)); exact (Kd.R_mono (Kd.R_far (p := ⟨gb289, 5, none⟩) (Kd.R_far (p := ⟨gb289, 4, none⟩) (Kd.R_far (p := ⟨gb289, 3, none⟩) (Kd.R_far (p := ⟨gb289, 2, none⟩) (Kd.R_far (p := ⟨gb289, 1, none⟩) (Kd.R_far (p := ⟨gb289, 0, none⟩) (Kd.R_mono HO_4.out (fun k_ hk => (⟨hk, hk.2⟩ : _ ∧ k_ ≠ gb289))) (fun _ hk => hk.2) (.int .i64 t281)) (fun _ hk => hk.2) (.string t282)) (fun _ hk => hk.2) (.string t283)) (fun _ hk => hk.2) (.string t284)) (fun _ hk => hk.2) (.int .i64 t285)) (fun _ hk => hk.2) (.string t286)) (fun _ h_ => h_.1))) hb); have n1_ := Aside0.mk (blk_below (g := gb289) (o := .cells #[.int .i64 t281, .string t282, .string t283, .string t284, .int .i64 t285, .string t286] 23 (0, 0)) (by (with_reducible repeat (fail)); refine blk_put (cs := #[.int .i64 t281, .string t282, .string t283, .string t284, .int .i64 t285, .string (⟨#[]⟩ : ByteArray)]) ?_ 5 _ rfl; (with_reducible repeat (fail)); refine blk_put (cs := #[.int .i64 t281, .string t282, .string t283, .string t284, .int .i64 0, .string (⟨#[]⟩ : ByteArray)]) ?_ 4 _ rfl; (with_reducible repeat (fail)); refine blk_put (cs := #[.int .i64 t281, .string t282, .string t283, .string (⟨#[]⟩ : ByteArray), .int .i64 0, .string (⟨#[]⟩ : ByteArray)]) ?_ 3 _ rfl; (with_reducible repeat (fail)); refine blk_put (cs := #[.int .i64 t281, .string t282, .string (⟨#[]⟩ : ByteArray), .string (⟨#[]⟩ : ByteArray), .int .i64 0, .string (⟨#[]⟩ : ByteArray)]) ?_ 2 _ rfl; (with_reducible repeat (fail)); refine blk_put (cs := #[.int .i64 t281, .string (⟨#[]⟩ : ByteArray), .string (⟨#[]⟩ : ByteArray), .string (⟨#[]⟩ : ByteArray), .int .i64 0, .string (⟨#[]⟩ : ByteArray)]) ?_ 1 _ rfl; (with_reducible repeat (fail)); refine blk_put (cs := #[.int .i64 0, .string (⟨#[]⟩ : ByteArray), .string (⟨#[]⟩ : ByteArray), .string (⟨#[]⟩ : ByteArray), .int .i64 0, .string (⟨#[]⟩ : ByteArray)]) ?_ 0 _ rfl; (with_reducible repeat (fail)); exact BK289.out) hb); have n2_ := Aside0.mk (below_step (by repeat (((with_reducible first | exact HB.out | refine below_set ?_ GE289.out)))) hb); clear HO_4; clear BK289; clear HB; have HO_4 := n0_; have BK289 := n1_; have HB := n2_; clear n0_ n1_ n2_; (try clear hb); (try clear hb2); (try clear hk); (try clear hi); (try simp only [errW_none, errW_some])))
     go_ret2
     exact ⟨_, _, rfl, by (exact Kd.R_nil _ _ _ _ _), HE_.out, by repeat (((with_reducible (exact HB.out))))⟩

def cmd_All.tel.f (r : Option (Int × Int)) : Option (Int × Int × Int) := some (TellR.toldRec r)
theorem cmd_All.tel.calls (v : Value) (r : Option (Int × Int)) (r1 r2 r3 : Int) (w : World) (hT : Tabs w) (hE : TellR.ErrR w v r) (h : cmd_All.tel.f r = some (r1, r2, r3)) :
    Calls Tryz.prog 22 #[v] w fun e w' => e = .returned (.agg #[.int .i64 r1, .int .i64 r2, .int .i64 r3]) ∧ Below w.heap.size w w' := by
  have h := Option.some.inj h
  have := TellR.tell v r w hT hE
  rw [h] at this
  exact this
def cmd_All.f (k : Nat) (a0 : ByteArray) : Option ((List (S23)) × Int × Int × Int) := (cmd_all.f k a0).bind fun bt296 => ((cmd_All.tel.f bt296.2).bind fun bt300 => (some (bt296.1, bt300.1, bt300.2.1, bt300.2.2)))
set_option maxHeartbeats 8000000 in
set_option maxRecDepth 100000 in
theorem cmd_All.calls (k : Nat) (a0 : ByteArray) (r1 : List (S23)) (r2 : Int) (r3 : Int) (r4 : Int) (w : World) (hT : Tabs w) (h : cmd_All.f k a0 = some (r1, r2, r3, r4)) :
  Calls Tryz.prog 18 #[.string a0] w fun e w' => ∃ v0_ : Value, e = .returned (.tuple #[v0_, .agg #[.int .i64 r2, .int .i64 r3, .int .i64 r4]]) ∧ Kd.R k23 23 w' w.heap.size (fun _ => True) v0_ r1 ∧ Below w.heap.size w w' := by
 have hu30 := Tryz.underlying30
 have HB := Aside0.mk (Below.refl w.heap.size w)
 have H : ((cmd_all.f k a0).bind fun bt296 => ((cmd_All.tel.f bt296.2).bind fun bt300 => (some (bt296.1, bt300.1, bt300.2.1, bt300.2.2)))) = some (r1, r2, r3, r4) := h
 clear h
 replace H := Option.bind_eq_some_iff.mp H
 obtain ⟨⟨t296, t297⟩, A20, H⟩ := H
 replace H : ((cmd_All.tel.f t297).bind fun bt300 => (some (t296, bt300.1, bt300.2.1, bt300.2.2))) = some (r1, r2, r3, r4) := H
 have A2 := Aside0.mk A20
 clear A20
 replace H := Option.bind_eq_some_iff.mp H
 obtain ⟨⟨t300, t301, t302⟩, A30, H⟩ := H
 replace H : (some (t296, t300, t301, t302)) = some (r1, r2, r3, r4) := H
 have A3 := Aside0.mk A30
 clear A30
 simp only [Option.some.injEq, Prod.mk.injEq] at H
 obtain ⟨rfl, rfl, rfl, rfl⟩ := H
 go_enter Tryz.func18, Tryz.ntmps18
 go_wp2_with (first | ((with_reducible refine gate_dst (N := 3) rfl ?_); refine box_event ?hg (N := 3) ?hd (cs := #[.int .i64 0, .int .i64 0, .int .i64 0]) (t := 30) ?hr ?_; (case hd => rfl); (case hg => rfl); (case hr => ((go_simp; done))); intro gb295 hg w4 hbox hb; have n0_ := Aside0.mk (below_step (by repeat (((with_reducible (exact HB.out))))) hb); have n1_ := Aside0.mk (hbox); have n2_ := Aside0.mk ((by rw [hg]; exact (below_size (by repeat (((with_reducible (exact HB.out)))))) : w.heap.size ≤ gb295)); have n3_ := Aside0.mk ((by rw [hg]; exact (below_size (by repeat (((with_reducible (exact HB.out)))))) : w.heap.size ≤ gb295)); clear HB; have HB := n0_; have BK295 := n1_; have GW295 := n2_; have GE295 := n3_; clear n0_ n1_ n2_ n3_; clear hb hbox hg) | ((with_reducible refine gate_callee (f := 33) rfl ?_); refine goesL_ (some 8) rfl rfl Tryz.func33 (by kernel_rfl) rfl #[.string a0] rfl (by (try simp only [List.map_toArray, List.map_cons, List.map_nil]); (rfl)) ?_; (with_reducible refine (cmd_all.calls k a0 t296 t297 _ ?side1 A2.out).mono ?_); (case side1 => exact Tabs.on hT (by repeat (((with_reducible (exact HB.out)))))); rintro e w5 ⟨v298, ve_, rfl, ho0, hE_, hb⟩; have HE_ := Aside0.mk hE_; clear hE_; refine ⟨_, rfl, ?_⟩; have n0_ := Aside0.mk (Kd.R_lower ho0 (below_size (by repeat (((with_reducible (exact HB.out))))))); have n1_ := Aside0.mk (blk_below (g := gb295) (o := .cells #[.int .i64 0, .int .i64 0, .int .i64 0] 30 (0, 0)) (by (with_reducible repeat (fail)); exact BK295.out) hb); have n2_ := Aside0.mk (below_step (by repeat (((with_reducible (exact HB.out))))) hb); clear BK295; clear HB; have HO299 := n0_; have BK295 := n1_; have HB := n2_; clear n0_ n1_ n2_; (try clear hb); (try clear hb2); (try clear hk); (try clear hi); (try clear ho0); (try simp only [errW_none, errW_some]); have CA3 := fun W (hW_ : Tabs W) (hE_ : TellR.ErrR W ve_ t297) => cmd_All.tel.calls ve_ t297 t300 t301 t302 W hW_ hE_ A3.out) | (go_at_call 22; (with_reducible refine (CA3 _ ?side1 ?side2).mono ?_); (case side2 => exact HE_.out); (case side1 => exact Tabs.on hT (by repeat (((with_reducible (exact HB.out)))))); rintro e w6 ⟨rfl, hb⟩; have n0_ := Aside0.mk (Kd.R_below (by (with_reducible repeat (fail)); exact HO299.out) hb); have n1_ := Aside0.mk (blk_below (g := gb295) (o := .cells #[.int .i64 0, .int .i64 0, .int .i64 0] 30 (0, 0)) (by (with_reducible repeat (fail)); exact BK295.out) hb); have n2_ := Aside0.mk (below_step (by repeat (((with_reducible (exact HB.out))))) hb); clear HO299; clear BK295; clear HB; have HO299 := n0_; have BK295 := n1_; have HB := n2_; clear n0_ n1_ n2_; (try clear hb); (try clear hb2); (try clear hk); (try clear hi); have hcz7_0 : w6.cell? ⟨gb295, 0, none⟩ = some (.int .i64 0) := (blk_cell BK295.out 0).trans rfl; have hcz7_1 : w6.cell? ⟨gb295, 1, none⟩ = some (.int .i64 0) := (blk_cell BK295.out 1).trans rfl; have hcz7_2 : w6.cell? ⟨gb295, 2, none⟩ = some (.int .i64 0) := (blk_cell BK295.out 2).trans rfl; have hfz7_0 := blk_frozen BK295.out 0; have hfz7_1 := blk_frozen BK295.out 1; have hfz7_2 := blk_frozen BK295.out 2))
 refine bodyPost_ret (results_tc rfl _ _ gb295 30 #[.int .i64 t300, .int .i64 t301, .int .i64 t302] (0, 0) _ rfl (by (with_reducible repeat (fail)); refine blk_put (cs := #[.int .i64 t300, .int .i64 t301, .int .i64 0]) ?_ 2 _ rfl; (with_reducible repeat (fail)); refine blk_put (cs := #[.int .i64 t300, .int .i64 0, .int .i64 0]) ?_ 1 _ rfl; (with_reducible repeat (fail)); refine blk_put (cs := #[.int .i64 0, .int .i64 0, .int .i64 0]) ?_ 0 _ rfl; (with_reducible repeat (fail)); exact BK295.out) Tryz.underlying30 rfl (by kernel_rfl)) rfl ?_
 exact ⟨_, by (rfl), by (with_reducible repeat (fail)); exact Kd.R_mono (Kd.R_far (p := ⟨gb295, 2, none⟩) (Kd.R_far (p := ⟨gb295, 1, none⟩) (Kd.R_far (p := ⟨gb295, 0, none⟩) (Kd.R_types HO299.out BK295.out (by decide)) (fun _ hk => hk.2) (.int .i64 t300)) (fun _ hk => hk.2) (.int .i64 t301)) (fun _ hk => hk.2) (.int .i64 t302)) (fun _ hk => trivial), by repeat (((with_reducible first | exact HB.out | refine below_set ?_ GE295.out)))⟩


end Go.Proofs.YtofdpgcnconibaaGreatDoor.PA
