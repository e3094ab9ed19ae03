-- WRITTEN BY a program of this session (pp.sh)
import Derived.Test.YtcocddpknkklhaaPAx0
import Derived.Test.YtcocddpknkklhaaPAx2
import Derived.Test.YtcocddpknkklhaaPAx12
import Derived.Test.YtcocddpknkklhaaPAx13
namespace Go.Proofs.Ytcocddpknkklhaa.PA
open Go.RowKit Go.Proofs.YtcocddpknkklhaaW.PrintWords Go.Proofs.YtcocddpknkklhaaW.PrintLast Go.Proofs.YtcocddpknkklhaaW.PrintMore Go.Proofs.Ytcocddpknkklhaa.Plain
attribute [local go_sem] max2_int min2_int max_two min_two max_three min_three max_four min_four binOp_leq_s binOp_gtr_s binOp_geq_s lit_byte   -- for this text's walks alone
set_option linter.unusedVariables false
set_option linter.unusedSimpArgs false

attribute [local go_sem high] eqA90
/-! ### key_Make: function 69 -/
def key_Make.j0 : Nat → ByteArray → Bool → Int → Int → ByteArray → Int → Int → Int → ByteArray → Int → Option (ByteArray × Int)
 | 0, _, _, _, _, _, _, _, _, _, _ => none
 | k + 1, x4, x6, x125000, x125001, x125002, x125003, x127000, x127001, x127002, x127003 => if x125000 = 110 then (if x125001 = 0 then (if (!(x127000 == 0) || (!(x127001 == 0) || (!(x127002.toList == ([] : List UInt8)) || (!(x127003 == 0))))) = true then (some ((⟨#[]⟩ : ByteArray), 81)) else (some (strOfNums (([x125000] : List Int)), 0))) else (some ((⟨#[]⟩ : ByteArray), 81))) else (if x125000 = 100 then (if x4.size + x125002.size ≤ 9223372036854775807 then (if x6 = true then (if x125002.toList = ([] : List UInt8) then (some ((⟨#[]⟩ : ByteArray), 81)) else (if ((x125002.size : Int) ≤ 255) then (if (!(x127000 == 0) || (!(x127001 == 0) || (!(x127003 == 0)))) = true then (some ((⟨#[]⟩ : ByteArray), 81)) else (some (x4 ++ x125002, 0))) else (some ((⟨#[]⟩ : ByteArray), 81)))) else (some ((⟨#[]⟩ : ByteArray), 81))) else (none)) else (if x125000 = 120 then (if x4.size + x125002.size ≤ 9223372036854775807 then (if x6 = true then (if x125002.toList = ([] : List UInt8) then (some ((⟨#[]⟩ : ByteArray), 81)) else (if ((x125002.size : Int) ≤ 255) then (if (!(x127000 == 0) || (!(x127001 == 0) || (!(x127003 == 0)))) = true then (some ((⟨#[]⟩ : ByteArray), 81)) else (some (x4 ++ x125002, 0))) else (some ((⟨#[]⟩ : ByteArray), 81)))) else (some ((⟨#[]⟩ : ByteArray), 81))) else (none)) else (if x125000 = 112 then ((pack_Fixed.f (IntKind.u64.wrap (x125003))).bind fun t130 => (if x4.size + t130.size ≤ 9223372036854775807 then (if x6 = true then (if x125003 ≥ 0 then (if x125003 < 72057594037927936 then (if (!(x127000 == 0) || (!(x127001 == 0) || (!(x127002.toList == ([] : List UInt8))))) = true then (some ((⟨#[]⟩ : ByteArray), 81)) else (some (x4 ++ t130, 0))) else (some ((⟨#[]⟩ : ByteArray), 81))) else (some ((⟨#[]⟩ : ByteArray), 81))) else (some ((⟨#[]⟩ : ByteArray), 81))) else (none))) else (if x125000 = 105 then (if x6 = true then (if (!(x127000 == 0) || (!(x127001 == 0) || (!(x127002.toList == ([] : List UInt8)) || (!(x127003 == 0))))) = true then (some ((⟨#[]⟩ : ByteArray), 81)) else (some (x4, 0))) else (some ((⟨#[]⟩ : ByteArray), 81))) else (some ((⟨#[]⟩ : ByteArray), 81))))))
def key_Make.f (k : Nat) (a0_0 : Int) (a0_1 : Int) (a0_2 : ByteArray) (a0_3 : Int) : Option (ByteArray × Int) := (key_numbered.f a0_0 a0_1).bind fun t125 => (if a0_1 > 0 then (key_Make.j0 k t125 (decide (a0_1 ≤ 1099511627776)) a0_0 a0_1 a0_2 a0_3 0 0 a0_2 a0_3) else (key_Make.j0 k t125 false a0_0 a0_1 a0_2 a0_3 0 0 a0_2 a0_3))
theorem key_Make.mono_l : ∀ k, (∀ y0 y1 y2 y3 y4 y5 y6 y7 y8 y9, LeO (key_Make.j0 k y0 y1 y2 y3 y4 y5 y6 y7 y8 y9) (key_Make.j0 (k + 1) y0 y1 y2 y3 y4 y5 y6 y7 y8 y9))
 | 0 => fun _ _ _ _ _ _ _ _ _ _ r h => by simp [key_Make.j0] at h
 | k + 1 => by
  have ih0 := key_Make.mono_l k
  ·intro y0 y1 y2 y3 y4 y5 y6 y7 y8 y9
   unfold key_Make.j0
   repeat' first
   | (with_reducible exact ih0 _ _ _ _ _ _ _ _ _ _)
   | (with_reducible exact LeO.refl _)
   | (with_reducible exact LeO.none _)
   | (with_reducible refine LeO.ite ?_ ?_)
   | (with_reducible refine LeO.bind ?_ (fun _ => ?_))
   | exact ih0 _ _ _ _ _ _ _ _ _ _
   | exact LeO.none _
   | refine LeO.ite ?_ ?_
   | refine LeO.bind ?_ (fun _ => ?_)
theorem key_Make.mono : ∀ a0 a1 a2 a3 k, LeO (key_Make.f k a0 a1 a2 a3) (key_Make.f (k + 1) a0 a1 a2 a3) := by
 intro a0 a1 a2 a3 k
 have ih0 := key_Make.mono_l k
 unfold key_Make.f
 repeat' first
   | (with_reducible exact ih0 _ _ _ _ _ _ _ _ _ _)
   | (with_reducible exact LeO.refl _)
   | (with_reducible exact LeO.none _)
   | (with_reducible refine LeO.ite ?_ ?_)
   | (with_reducible refine LeO.bind ?_ (fun _ => ?_))
   | exact ih0 _ _ _ _ _ _ _ _ _ _
   | exact LeO.none _
   | refine LeO.ite ?_ ?_
   | refine LeO.bind ?_ (fun _ => ?_)
def key_Make.T1 : Bool × List (List Nat × List Nat) := (true, [([], []), ([0], [0]), ([], []), ([2], [2]), ([1, 3], [1, 3]), ([], []), ([], []), ([4, 4, 0, 1, 2, 3, 4, 6], [4]), ([6, 5, 7, 0, 1, 2, 3, 4, 5, 6, 7], [5, 6])])
def key_Make.B1 : List Nat := [0, 1, 0, 4, 15, 0, 0, 95, 255]
theorem key_Make.tab1 : rtab .any (opsOf Try.f69 1) = key_Make.T1 := by kernel_rfl
theorem key_Make.bits1 : waitsOk key_Make.T1.2 key_Make.B1 = true := by kernel_rfl
def key_Make.T10 : Bool × List (List Nat × List Nat) := (true, [([], []), ([0], [0]), ([1], [1]), ([2], [2]), ([], []), ([4], [4]), ([5], [5]), ([3, 0, 1, 2, 3], [3]), ([6, 7, 0, 1, 2, 3, 4, 5, 6, 7], [6])])
def key_Make.B10 : List Nat := [0, 1, 3, 7, 0, 16, 48, 15, 255]
theorem key_Make.tab10 : rtab .any (opsOf Try.f69 10) = key_Make.T10 := by kernel_rfl
theorem key_Make.bits10 : waitsOk key_Make.T10.2 key_Make.B10 = true := by kernel_rfl
set_option maxHeartbeats 8000000 in
set_option maxRecDepth 100000 in
theorem key_Make.calls (k : Nat) (a0_0 : Int) (a0_1 : Int) (a0_2 : ByteArray) (a0_3 : Int) (r1 : ByteArray) (r2 : Int) (w : World) (h : key_Make.f k a0_0 a0_1 a0_2 a0_3 = some (r1, r2)) :
  Calls Try.prog 69 #[.agg #[.int .u8 a0_0, .int .i64 a0_1, .string a0_2, .int .i64 a0_3]] w fun e w' => e = .returned (.tuple #[.string r1, .int .i64 r2]) ∧ Below w.heap.size w w' := by
 have hu90 := Try.underlying90
 have HB := Aside0.mk (Below.refl w.heap.size w)
 have H : ((key_numbered.f a0_0 a0_1).bind fun t125 => (if a0_1 > 0 then (key_Make.j0 k t125 (decide (a0_1 ≤ 1099511627776)) a0_0 a0_1 a0_2 a0_3 0 0 a0_2 a0_3) else (key_Make.j0 k t125 false a0_0 a0_1 a0_2 a0_3 0 0 a0_2 a0_3))) = some (r1, r2) := h
 clear h
 replace H := Option.bind_eq_some_iff.mp H
 obtain ⟨t125, A20, H⟩ := H
 replace H : (if a0_1 > 0 then (key_Make.j0 k t125 (decide (a0_1 ≤ 1099511627776)) a0_0 a0_1 a0_2 a0_3 0 0 a0_2 a0_3) else (key_Make.j0 k t125 false a0_0 a0_1 a0_2 a0_3 0 0 a0_2 a0_3)) = some (r1, r2) := H
 have A2 := Aside0.mk A20
 clear A20
 have HC3 := Aside0.mk H
 clear H
 go_enter Try.func69, Try.ntmps69
 try go_wp2_with (first | ((with_reducible refine gate_dst (N := 1) rfl ?_); (try (refine gate_guard (by rfl) ?_; dsimp only)); refine box_event ?hg (N := 1) ?hd (cs := #[.int .u8 a0_0, .int .i64 a0_1, .string a0_2, .int .i64 a0_3]) (t := 90) ?hr ?_; (case hd => rfl); (case hg => rfl); (case hr => first | (go_simp; done) | (go_simp; rfl)); intro gb124 hg w4 hbox hb; have n0_ := Aside0.mk (below_step (by repeat (first | (with_reducible first | exact HB.out | apply below_alloc | apply pw_below_drewN | apply below_drew1) | exact HB.out)) hb); have n1_ := Aside0.mk (hbox); have n2_ := Aside0.mk ((by rw [hg]; exact (below_size (by repeat (first | (with_reducible first | exact HB.out | apply below_alloc | apply pw_below_drewN | apply below_drew1) | exact HB.out))) : w.heap.size ≤ gb124)); have n3_ := Aside0.mk ((by rw [hg]; exact (below_size (by repeat (first | (with_reducible first | exact HB.out | apply below_alloc | apply pw_below_drewN | apply below_drew1) | exact HB.out))) : w.heap.size ≤ gb124)); clear HB; have HB := n0_; have BK124 := n1_; have GW124 := n2_; have GE124 := n3_; clear n0_ n1_ n2_ n3_; clear hb hbox hg))
 have n0_ := Aside0.mk (blk_drew BK124.out)
 have n1_ := Aside0.mk (below_drew1 HB.out)
 clear BK124
 clear HB
 have BK124 := n0_
 have HB := n1_
 clear n0_ n1_
 refine start_ (n := 9) (S := fun w' => w'.cell? ⟨gb124, 0, none⟩ = some (.int .u8 a0_0) ∧ w'.cell? ⟨gb124, 1, none⟩ = some (.int .i64 a0_1) ∧ w'.cell? ⟨gb124, 2, none⟩ = some (.string a0_2) ∧ w'.cell? ⟨gb124, 3, none⟩ = some (.int .i64 a0_3)) (ds := []) #[false, false, false, false, false, false, false, false, false] (by kernel_rfl) rfl rfl ⟨(blk_cell BK124.out 0).trans rfl, (blk_cell BK124.out 1).trans rfl, (blk_cell BK124.out 2).trans rfl, (blk_cell BK124.out 3).trans rfl⟩ (fun hHeld => ?_); refine with_tabW key_Make.tab1 key_Make.bits1 (fun HT_ HW_ => ?_)
 generalize w4.drew = w5 at BK124 HB hHeld ⊢
 refine pure_ (i := 0) (N := some 7) (v := ?_) (a' := ?_) #[true, false, false, false, false, false, false, false, false] rfl rfl (any_of HT_.out (by kernel_rfl)) (fun _ _ _ h => h) (Or.inl ⟨by rfl, ?_⟩) ?_ ?_
 rotate_left
 ·intro w'
  go_simp
  with_reducible rfl
 rotate_left
 ·simp only [Act.put, List.setIfInBounds_toArray, List.set_cons_zero, List.set_cons_succ, i64_w, i32_w]
  rfl
 refine pure_ (i := 2) (N := some 9) (v := ?_) (a' := ?_) #[true, false, true, false, false, false, false, false, false] rfl rfl (any_of HT_.out (by kernel_rfl)) (fun _ _ _ h => h) (Or.inl ⟨by rfl, ?_⟩) ?_ ?_
 rotate_left
 ·intro w'
  go_simp
  with_reducible rfl
 rotate_left
 ·simp only [Act.put, List.setIfInBounds_toArray, List.set_cons_zero, List.set_cons_succ, i64_w, i32_w]
  rfl
 refine take_ (i := 1) (N := some 8) (v := ?_) (a' := ?_) #[true, true, true, false, false, false, false, false, false] rfl rfl (take_ofW HT_.out HW_.out (by kernel_rfl)) (fun _ _ _ h => h) (Or.inl ⟨by rfl, ?_⟩) hHeld ?_ ?_
 rotate_left
 ·rintro w' ⟨s0, s1, s2, s3⟩
  go_simp
  with_reducible rfl
 rotate_left
 ·simp only [Act.put, List.setIfInBounds_toArray, List.set_cons_zero, List.set_cons_succ, i64_w, i32_w]
  rfl
 refine take_ (i := 3) (N := some 10) (v := ?_) (a' := ?_) #[true, true, true, true, false, false, false, false, false] rfl rfl (take_ofW HT_.out HW_.out (by kernel_rfl)) (fun _ _ _ h => h) (Or.inl ⟨by rfl, ?_⟩) hHeld ?_ ?_
 rotate_left
 ·rintro w' ⟨s0, s1, s2, s3⟩
  go_simp
  with_reducible rfl
 rotate_left
 ·simp only [Act.put, List.setIfInBounds_toArray, List.set_cons_zero, List.set_cons_succ, i64_w, i32_w]
  rfl
 refine take_ (i := 5) (N := some 12) (v := ?_) (a' := ?_) #[true, true, true, true, false, true, false, false, false] rfl rfl (take_ofW HT_.out HW_.out (by kernel_rfl)) (fun _ _ _ h => h) (Or.inl ⟨by rfl, ?_⟩) hHeld ?_ ?_
 rotate_left
 ·rintro w' ⟨s0, s1, s2, s3⟩
  go_simp
  with_reducible rfl
 rotate_left
 ·simp only [Act.put, List.setIfInBounds_toArray, List.set_cons_zero, List.set_cons_succ, i64_w, i32_w]
  rfl
 refine join_ (σ := Nat) 2 #[true, true, true, true, true, true, true, false, false] (fun s_ => [(11, .string t125), (5, .pointer (some ⟨s_, 0, none⟩))]) (fun s_ w' => (w'.cell? ⟨gb124, 0, none⟩ = some (.int .u8 a0_0) ∧ w'.cell? ⟨gb124, 1, none⟩ = some (.int .i64 a0_1) ∧ w'.cell? ⟨gb124, 2, none⟩ = some (.string a0_2) ∧ w'.cell? ⟨gb124, 3, none⟩ = some (.int .i64 a0_3)) ∧ (w'.heap[gb124]? = some (.cells #[.int .u8 a0_0, .int .i64 a0_1, .string a0_2, .int .i64 a0_3] 90 (0, 0))) ∧ (w'.heap[s_]? = some (.cells #[.int .u8 0, .int .i64 0, .string (⟨#[]⟩ : ByteArray), .int .i64 0] 90 (0, 0))) ∧ (w.heap.size ≤ s_) ∧ (w.heap.size ≤ s_) ∧ (gb124 ≠ s_) ∧ (s_ ≠ gb124) ∧ (Below w.heap.size w w')) ?_ ?_
 rotate_left
 ·intro hCont
  refine two_ (i := 4) (j := 6) (Ni := some 11) (Nj := some 5) #[true, true, true, true, true, true, false, false, false] #[true, true, true, true, false, true, true, false, false] rfl rfl rfl rfl (two_of HT_.out (by kernel_rfl)) (by decide) (by decide) (fun K hK => ?_) (fun K hK => ?_)
  ·skip
   refine goes_ Try.func82 (by kernel_rfl) rfl #[.int .u8 a0_0, .int .i64 a0_1] (by rfl) rfl rfl (by (try simp only [List.map_toArray, List.map_cons, List.map_nil]); first | done | rfl | (simp only [List.length_drop, List.length_take]; rfl)) ?_
   with_reducible refine (key_numbered.calls a0_0 a0_1 t125 _ A2.out).mono ?_
   rintro e w6 ⟨rfl, hb⟩
   refine ⟨_, rfl, ?_⟩
   have n0_ := Aside0.mk (blk_below (g := gb124) (o := .cells #[.int .u8 a0_0, .int .i64 a0_1, .string a0_2, .int .i64 a0_3] 90 (0, 0)) (by (with_reducible repeat (first | refine blk_drewN ?_ _ | refine blk_drew ?_ | refine blk_alloc ?_ _)); exact BK124.out) hb)
   have n1_ := Aside0.mk (below_step (by repeat (first | (with_reducible first | exact HB.out | apply below_alloc | apply pw_below_drewN | apply below_drew1 | refine below_set ?_ GE124.out) | exact HB.out)) hb)
   clear BK124
   clear HB
   have BK124 := n0_
   have HB := n1_
   clear n0_ n1_
   (try clear hb)
   (try clear hb2)
   (try clear hk)
   (try clear hi)
   refine hK.out _ _ ⟨(blk_cell BK124.out 0).trans rfl, (blk_cell BK124.out 1).trans rfl, (blk_cell BK124.out 2).trans rfl, (blk_cell BK124.out 3).trans rfl⟩ (fun hHeld => ?_)
   clear hK K
   refine norm_ (a' := ?_) ?_ ?_
   rotate_left
   ·show Act.put _ (some 11) _ = _
    simp only [Act.put, List.setIfInBounds_toArray, List.set_cons_zero, List.set_cons_succ, i64_w, i32_w]
    rfl
   refine one_ (i := 6) (N := some 5) #[true, true, true, true, true, true, true, false, false] rfl rfl (one_of HT_.out (by kernel_rfl)) (by decide) (fun K hK => ?_)
   refine box_step ?hg (N := 5) ?hd (cs := #[.int .u8 0, .int .i64 0, .string (⟨#[]⟩ : ByteArray), .int .i64 0]) (t := 90) ?hr ?_; (case hd => rfl); (case hg => rfl); (case hr => first | (go_simp; done) | (go_simp; rfl))
   intro gb126 hg w7 hbox hb
   have n0_ := Aside0.mk (blk_below (g := gb124) (o := .cells #[.int .u8 a0_0, .int .i64 a0_1, .string a0_2, .int .i64 a0_3] 90 (0, 0)) (by (with_reducible repeat (first | refine blk_drewN ?_ _ | refine blk_drew ?_ | refine blk_alloc ?_ _)); exact BK124.out) hb)
   have n1_ := Aside0.mk (below_step (by repeat (first | (with_reducible first | exact HB.out | apply below_alloc | apply pw_below_drewN | apply below_drew1 | refine below_set ?_ GE124.out) | exact HB.out)) hb)
   have n2_ := Aside0.mk (hbox)
   have n3_ := Aside0.mk ((by rw [hg]; exact (below_size (by repeat (first | (with_reducible first | exact HB.out | apply below_alloc | apply pw_below_drewN | apply below_drew1 | refine below_set ?_ GE124.out) | exact HB.out))) : w.heap.size ≤ gb126))
   have n4_ := Aside0.mk ((by rw [hg]; exact (below_size (by repeat (first | (with_reducible first | exact HB.out | apply below_alloc | apply pw_below_drewN | apply below_drew1 | refine below_set ?_ GE124.out) | exact HB.out))) : w.heap.size ≤ gb126))
   have n5_ := Aside0.mk ((by rw [hg]; exact Nat.ne_of_lt (blk_lt (g := gb124) (o := .cells #[.int .u8 a0_0, .int .i64 a0_1, .string a0_2, .int .i64 a0_3] 90 (0, 0)) (by (with_reducible repeat (first | refine blk_drewN ?_ _ | refine blk_drew ?_ | refine blk_alloc ?_ _)); exact BK124.out)) : gb124 ≠ gb126))
   have n6_ := Aside0.mk ((by rw [hg]; exact Nat.ne_of_gt (blk_lt (g := gb124) (o := .cells #[.int .u8 a0_0, .int .i64 a0_1, .string a0_2, .int .i64 a0_3] 90 (0, 0)) (by (with_reducible repeat (first | refine blk_drewN ?_ _ | refine blk_drew ?_ | refine blk_alloc ?_ _)); exact BK124.out)) : gb126 ≠ gb124))
   clear BK124
   clear HB
   have BK124 := n0_
   have HB := n1_
   have BK126 := n2_
   have GW126 := n3_
   have GE126 := n4_
   have NB124_126 := n5_
   have NB126_124 := n6_
   clear n0_ n1_ n2_ n3_ n4_ n5_ n6_
   clear hb hbox hg
   refine hK.out _ _ ⟨(blk_cell BK124.out 0).trans rfl, (blk_cell BK124.out 1).trans rfl, (blk_cell BK124.out 2).trans rfl, (blk_cell BK124.out 3).trans rfl⟩ (fun hHeld => ?_)
   clear hK K
   refine norm_ (a' := ?_) ?_ ?_
   rotate_left
   ·show Act.put _ (some 5) _ = _
    simp only [Act.put, List.setIfInBounds_toArray, List.set_cons_zero, List.set_cons_succ, i64_w, i32_w]
    rfl
   exact norm_ (by simp only [putAll, Act.put, List.setIfInBounds_toArray, List.set_cons_zero, List.set_cons_succ]) (hCont (gb126) _ ⟨hHeld, (by (with_reducible repeat (first | refine blk_drewN ?_ _ | refine blk_drew ?_ | refine blk_alloc ?_ _)); exact BK124.out), (by (with_reducible repeat (first | refine blk_drewN ?_ _ | refine blk_drew ?_ | refine blk_alloc ?_ _)); exact BK126.out), GW126.out, GE126.out, NB124_126.out, NB126_124.out, (by repeat (first | (with_reducible first | exact HB.out | apply below_alloc | apply pw_below_drewN | apply below_drew1 | refine below_set ?_ GE124.out | refine below_set ?_ GE126.out) | exact HB.out))⟩)
  ·skip
   refine box_step ?hg (N := 5) ?hd (cs := #[.int .u8 0, .int .i64 0, .string (⟨#[]⟩ : ByteArray), .int .i64 0]) (t := 90) ?hr ?_; (case hd => rfl); (case hg => rfl); (case hr => first | (go_simp; done) | (go_simp; rfl))
   intro gb126 hg w6 hbox hb
   have n0_ := Aside0.mk (blk_below (g := gb124) (o := .cells #[.int .u8 a0_0, .int .i64 a0_1, .string a0_2, .int .i64 a0_3] 90 (0, 0)) (by (with_reducible repeat (first | refine blk_drewN ?_ _ | refine blk_drew ?_ | refine blk_alloc ?_ _)); exact BK124.out) hb)
   have n1_ := Aside0.mk (below_step (by repeat (first | (with_reducible first | exact HB.out | apply below_alloc | apply pw_below_drewN | apply below_drew1 | refine below_set ?_ GE124.out) | exact HB.out)) hb)
   have n2_ := Aside0.mk (hbox)
   have n3_ := Aside0.mk ((by rw [hg]; exact (below_size (by repeat (first | (with_reducible first | exact HB.out | apply below_alloc | apply pw_below_drewN | apply below_drew1 | refine below_set ?_ GE124.out) | exact HB.out))) : w.heap.size ≤ gb126))
   have n4_ := Aside0.mk ((by rw [hg]; exact (below_size (by repeat (first | (with_reducible first | exact HB.out | apply below_alloc | apply pw_below_drewN | apply below_drew1 | refine below_set ?_ GE124.out) | exact HB.out))) : w.heap.size ≤ gb126))
   have n5_ := Aside0.mk ((by rw [hg]; exact Nat.ne_of_lt (blk_lt (g := gb124) (o := .cells #[.int .u8 a0_0, .int .i64 a0_1, .string a0_2, .int .i64 a0_3] 90 (0, 0)) (by (with_reducible repeat (first | refine blk_drewN ?_ _ | refine blk_drew ?_ | refine blk_alloc ?_ _)); exact BK124.out)) : gb124 ≠ gb126))
   have n6_ := Aside0.mk ((by rw [hg]; exact Nat.ne_of_gt (blk_lt (g := gb124) (o := .cells #[.int .u8 a0_0, .int .i64 a0_1, .string a0_2, .int .i64 a0_3] 90 (0, 0)) (by (with_reducible repeat (first | refine blk_drewN ?_ _ | refine blk_drew ?_ | refine blk_alloc ?_ _)); exact BK124.out)) : gb126 ≠ gb124))
   clear BK124
   clear HB
   have BK124 := n0_
   have HB := n1_
   have BK126 := n2_
   have GW126 := n3_
   have GE126 := n4_
   have NB124_126 := n5_
   have NB126_124 := n6_
   clear n0_ n1_ n2_ n3_ n4_ n5_ n6_
   clear hb hbox hg
   refine hK.out _ _ ⟨(blk_cell BK124.out 0).trans rfl, (blk_cell BK124.out 1).trans rfl, (blk_cell BK124.out 2).trans rfl, (blk_cell BK124.out 3).trans rfl⟩ (fun hHeld => ?_)
   clear hK K
   refine norm_ (a' := ?_) ?_ ?_
   rotate_left
   ·show Act.put _ (some 5) _ = _
    simp only [Act.put, List.setIfInBounds_toArray, List.set_cons_zero, List.set_cons_succ, i64_w, i32_w]
    rfl
   refine one_ (i := 4) (N := some 11) #[true, true, true, true, true, true, true, false, false] rfl rfl (one_of HT_.out (by kernel_rfl)) (by decide) (fun K hK => ?_)
   refine goes_ Try.func82 (by kernel_rfl) rfl #[.int .u8 a0_0, .int .i64 a0_1] (by rfl) rfl rfl (by (try simp only [List.map_toArray, List.map_cons, List.map_nil]); first | done | rfl | (simp only [List.length_drop, List.length_take]; rfl)) ?_
   with_reducible refine (key_numbered.calls a0_0 a0_1 t125 _ A2.out).mono ?_
   rintro e w7 ⟨rfl, hb⟩
   refine ⟨_, rfl, ?_⟩
   have n0_ := Aside0.mk (blk_below (g := gb124) (o := .cells #[.int .u8 a0_0, .int .i64 a0_1, .string a0_2, .int .i64 a0_3] 90 (0, 0)) (by (with_reducible repeat (first | refine blk_drewN ?_ _ | refine blk_drew ?_ | refine blk_alloc ?_ _)); exact BK124.out) hb)
   have n1_ := Aside0.mk (blk_below (g := gb126) (o := .cells #[.int .u8 0, .int .i64 0, .string (⟨#[]⟩ : ByteArray), .int .i64 0] 90 (0, 0)) (by (with_reducible repeat (first | refine blk_drewN ?_ _ | refine blk_drew ?_ | refine blk_alloc ?_ _)); exact BK126.out) hb)
   have n2_ := Aside0.mk (below_step (by repeat (first | (with_reducible first | exact HB.out | apply below_alloc | apply pw_below_drewN | apply below_drew1 | refine below_set ?_ GE124.out | refine below_set ?_ GE126.out) | exact HB.out)) hb)
   clear BK124
   clear BK126
   clear HB
   have BK124 := n0_
   have BK126 := n1_
   have HB := n2_
   clear n0_ n1_ n2_
   (try clear hb)
   (try clear hb2)
   (try clear hk)
   (try clear hi)
   refine hK.out _ _ ⟨(blk_cell BK124.out 0).trans rfl, (blk_cell BK124.out 1).trans rfl, (blk_cell BK124.out 2).trans rfl, (blk_cell BK124.out 3).trans rfl⟩ (fun hHeld => ?_)
   clear hK K
   refine norm_ (a' := ?_) ?_ ?_
   rotate_left
   ·show Act.put _ (some 11) _ = _
    simp only [Act.put, List.setIfInBounds_toArray, List.set_cons_zero, List.set_cons_succ, i64_w, i32_w]
    rfl
   exact norm_ (by simp only [putAll, Act.put, List.setIfInBounds_toArray, List.set_cons_zero, List.set_cons_succ]) (hCont (gb126) _ ⟨hHeld, (by (with_reducible repeat (first | refine blk_drewN ?_ _ | refine blk_drew ?_ | refine blk_alloc ?_ _)); exact BK124.out), (by (with_reducible repeat (first | refine blk_drewN ?_ _ | refine blk_drew ?_ | refine blk_alloc ?_ _)); exact BK126.out), GW126.out, GE126.out, NB124_126.out, NB126_124.out, (by repeat (first | (with_reducible first | exact HB.out | apply below_alloc | apply pw_below_drewN | apply below_drew1 | refine below_set ?_ GE124.out | refine below_set ?_ GE126.out) | exact HB.out))⟩)
 rintro gb126 w8 ⟨hS_, h0_, h1_, h2_, h3_, h4_, h5_, h6_⟩
 have n0_ : Aside0 (w8.heap[gb124]? = some (.cells #[.int .u8 a0_0, .int .i64 a0_1, .string a0_2, .int .i64 a0_3] 90 (0, 0))) := ⟨h0_⟩
 have n1_ : Aside0 (w8.heap[gb126]? = some (.cells #[.int .u8 0, .int .i64 0, .string (⟨#[]⟩ : ByteArray), .int .i64 0] 90 (0, 0))) := ⟨h1_⟩
 have n2_ : Aside0 (w.heap.size ≤ gb126) := ⟨h2_⟩
 have n3_ : Aside0 (w.heap.size ≤ gb126) := ⟨h3_⟩
 have n4_ : Aside0 (gb124 ≠ gb126) := ⟨h4_⟩
 have n5_ : Aside0 (gb126 ≠ gb124) := ⟨h5_⟩
 have n6_ : Aside0 (Below w.heap.size w w8) := ⟨h6_⟩
 clear BK124
 clear HB
 clear h0_ h1_ h2_ h3_ h4_ h5_ h6_
 have BK124 := n0_
 have BK126 := n1_
 have GW126 := n2_
 have GE126 := n3_
 have NB124_126 := n4_
 have NB126_124 := n5_
 have HB := n6_
 clear n0_ n1_ n2_ n3_ n4_ n5_ n6_
 have hHeld : w8.cell? ⟨gb124, 0, none⟩ = some (.int .u8 a0_0) ∧ w8.cell? ⟨gb124, 1, none⟩ = some (.int .i64 a0_1) ∧ w8.cell? ⟨gb124, 2, none⟩ = some (.string a0_2) ∧ w8.cell? ⟨gb124, 3, none⟩ = some (.int .i64 a0_3) := hS_
 refine norm_ (a' := ?_) ?_ ?_
 rotate_left
 ·simp only [putAll, Act.put, List.setIfInBounds_toArray, List.set_cons_zero, List.set_cons_succ]
  rfl
 refine pure_ (i := 7) (N := some 4) (v := ?_) (a' := ?_) #[true, true, true, true, true, true, true, true, false] rfl rfl (any_of HT_.out (by kernel_rfl)) (fun _ _ _ h => h) (Or.inl ⟨by rfl, ?_⟩) ?_ ?_
 rotate_left
 ·intro w'
  go_simp
  with_reducible rfl
 rotate_left
 ·simp only [Act.put, List.setIfInBounds_toArray, List.set_cons_zero, List.set_cons_succ, i64_w, i32_w]
  rfl
 refine one_ (i := 8) (N := none) #[true, true, true, true, true, true, true, true, true] rfl rfl (one_of HT_.out (by kernel_rfl)) (by decide) (fun K hK => ?_)
 have hs9 : w8.cell? ⟨gb126, 0, none⟩ = some (.int .u8 0) := (blk_cell BK126.out 0).trans rfl
 have hfs9 := blk_frozen BK126.out 0
 have hns9_0 := NB124_126.out
 have hms9_0 := NB126_124.out
 have hs10 : w8.cell? ⟨gb126, 1, none⟩ = some (.int .i64 0) := (blk_cell BK126.out 1).trans rfl
 have hfs10 := blk_frozen BK126.out 1
 have hns10_0 := NB124_126.out
 have hms10_0 := NB126_124.out
 have hs11 : w8.cell? ⟨gb126, 2, none⟩ = some (.string (⟨#[]⟩ : ByteArray)) := (blk_cell BK126.out 2).trans rfl
 have hfs11 := blk_frozen BK126.out 2
 have hns11_0 := NB124_126.out
 have hms11_0 := NB126_124.out
 have hs12 : w8.cell? ⟨gb126, 3, none⟩ = some (.int .i64 0) := (blk_cell BK126.out 3).trans rfl
 have hfs12 := blk_frozen BK126.out 3
 have hns12_0 := NB124_126.out
 have hms12_0 := NB126_124.out
 refine skip_ (w1 := ?_) (by rfl) rfl ?_ ?_
 rotate_left
 ·go_simp
  rfl
 refine hK.out _ _ ⟨((cell_far (p := ⟨gb126, _, none⟩) NB124_126.out _).trans (((cell_far (p := ⟨gb126, _, none⟩) NB124_126.out _).trans (((cell_far (p := ⟨gb126, _, none⟩) NB124_126.out _).trans (((cell_far (p := ⟨gb126, _, none⟩) NB124_126.out _).trans (hHeld.1)))))))), ((cell_far (p := ⟨gb126, _, none⟩) NB124_126.out _).trans (((cell_far (p := ⟨gb126, _, none⟩) NB124_126.out _).trans (((cell_far (p := ⟨gb126, _, none⟩) NB124_126.out _).trans (((cell_far (p := ⟨gb126, _, none⟩) NB124_126.out _).trans (hHeld.2.1)))))))), ((cell_far (p := ⟨gb126, _, none⟩) NB124_126.out _).trans (((cell_far (p := ⟨gb126, _, none⟩) NB124_126.out _).trans (((cell_far (p := ⟨gb126, _, none⟩) NB124_126.out _).trans (((cell_far (p := ⟨gb126, _, none⟩) NB124_126.out _).trans (hHeld.2.2.1)))))))), ((cell_far (p := ⟨gb126, _, none⟩) NB124_126.out _).trans (((cell_far (p := ⟨gb126, _, none⟩) NB124_126.out _).trans (((cell_far (p := ⟨gb126, _, none⟩) NB124_126.out _).trans (((cell_far (p := ⟨gb126, _, none⟩) NB124_126.out _).trans (hHeld.2.2.2))))))))⟩ (fun hHeld => ?_)
 clear hK K
 refine done_ (done_of HT_.out (by kernel_rfl)) ?_
 have hnb13 := NB126_124.out
 have hnc13 := NB124_126.out
 have hcz14_0 : w8.cell? ⟨gb126, 0, none⟩ = some (.int .u8 0) := (blk_cell BK126.out 0).trans rfl
 have hcz14_1 : w8.cell? ⟨gb126, 1, none⟩ = some (.int .i64 0) := (blk_cell BK126.out 1).trans rfl
 have hcz14_2 : w8.cell? ⟨gb126, 2, none⟩ = some (.string (⟨#[]⟩ : ByteArray)) := (blk_cell BK126.out 2).trans rfl
 have hcz14_3 : w8.cell? ⟨gb126, 3, none⟩ = some (.int .i64 0) := (blk_cell BK126.out 3).trans rfl
 have hfz14_0 := blk_frozen BK126.out 0
 have hfz14_1 := blk_frozen BK126.out 1
 have hfz14_2 := blk_frozen BK126.out 2
 have hfz14_3 := blk_frozen BK126.out 3
 go_upto_region 3 with (fail)
 go_cut [6] (fun v6 wc => ∃ (kq : Nat) (x6_2 : Bool), v6 = .bool x6_2 ∧ Aside0 (key_Make.j0 kq t125 x6_2 a0_0 a0_1 a0_2 a0_3 0 0 a0_2 a0_3 = some (r1, r2)) ∧ Aside0 (kq ≤ k) ∧ Aside0 (wc.heap[gb124]? = some (.cells #[.int .u8 a0_0, .int .i64 a0_1, .string a0_2, .int .i64 a0_3] 90 (0, 0))) ∧ Aside0 (wc.heap[gb126]? = some (.cells #[.int .u8 0, .int .i64 0, .string a0_2, .int .i64 a0_3] 90 (0, 0))) ∧ Aside0 (Below w.heap.size w wc))
 case first =>
  have H := HC3.out
  clear HC3
  by_cases c15 : a0_1 > 0
  ·rw [if_pos c15] at H
   have c15b0 : decide (0 < a0_1) = true := decide_eq_true c15
   clear c15
   (first | rw [c15b0] | (simp only [i64_w, i32_w]; rw [c15b0]) | skip)
   have H' := Aside0.mk H
   clear H
   have hnb16 := NB124_126.out
   have hnc16 := NB126_124.out
   have hcz17_0 : w8.cell? ⟨gb124, 0, none⟩ = some (.int .u8 a0_0) := (blk_cell BK124.out 0).trans rfl
   have hcz17_1 : w8.cell? ⟨gb124, 1, none⟩ = some (.int .i64 a0_1) := (blk_cell BK124.out 1).trans rfl
   have hcz17_2 : w8.cell? ⟨gb124, 2, none⟩ = some (.string a0_2) := (blk_cell BK124.out 2).trans rfl
   have hcz17_3 : w8.cell? ⟨gb124, 3, none⟩ = some (.int .i64 a0_3) := (blk_cell BK124.out 3).trans rfl
   have hfz17_0 := blk_frozen BK124.out 0
   have hfz17_1 := blk_frozen BK124.out 1
   have hfz17_2 := blk_frozen BK124.out 2
   have hfz17_3 := blk_frozen BK124.out 3
   go_wp2
   go_meet
   case rel => exact ⟨_, (decide (a0_1 ≤ 1099511627776)), (by first | rfl | (simp; done) | (simp [*]; done)), H', ⟨by first | omega | exact Nat.le_refl _⟩, ⟨by (with_reducible repeat (first | refine blk_drewN ?_ _ | refine blk_drew ?_ | refine blk_alloc ?_ _)); refine blk_far ?_ NB124_126.out _; (with_reducible repeat (first | refine blk_drewN ?_ _ | refine blk_drew ?_ | refine blk_alloc ?_ _)); refine blk_far ?_ NB124_126.out _; (with_reducible repeat (first | refine blk_drewN ?_ _ | refine blk_drew ?_ | refine blk_alloc ?_ _)); refine blk_far ?_ NB124_126.out _; (with_reducible repeat (first | refine blk_drewN ?_ _ | refine blk_drew ?_ | refine blk_alloc ?_ _)); refine blk_far ?_ NB124_126.out _; (with_reducible repeat (first | refine blk_drewN ?_ _ | refine blk_drew ?_ | refine blk_alloc ?_ _)); refine blk_far ?_ NB124_126.out _; (with_reducible repeat (first | refine blk_drewN ?_ _ | refine blk_drew ?_ | refine blk_alloc ?_ _)); refine blk_far ?_ NB124_126.out _; (with_reducible repeat (first | refine blk_drewN ?_ _ | refine blk_drew ?_ | refine blk_alloc ?_ _)); exact BK124.out⟩, ⟨by (with_reducible repeat (first | refine blk_drewN ?_ _ | refine blk_drew ?_ | refine blk_alloc ?_ _)); refine blk_put (cs := #[.int .u8 0, .int .i64 a0_1, .string a0_2, .int .i64 a0_3]) ?_ 1 _ rfl; (with_reducible repeat (first | refine blk_drewN ?_ _ | refine blk_drew ?_ | refine blk_alloc ?_ _)); refine blk_put (cs := #[.int .u8 a0_0, .int .i64 a0_1, .string a0_2, .int .i64 a0_3]) ?_ 0 _ rfl; (with_reducible repeat (first | refine blk_drewN ?_ _ | refine blk_drew ?_ | refine blk_alloc ?_ _)); refine blk_put (cs := #[.int .u8 a0_0, .int .i64 a0_1, .string a0_2, .int .i64 0]) ?_ 3 _ rfl; (with_reducible repeat (first | refine blk_drewN ?_ _ | refine blk_drew ?_ | refine blk_alloc ?_ _)); refine blk_put (cs := #[.int .u8 a0_0, .int .i64 a0_1, .string (⟨#[]⟩ : ByteArray), .int .i64 0]) ?_ 2 _ rfl; (with_reducible repeat (first | refine blk_drewN ?_ _ | refine blk_drew ?_ | refine blk_alloc ?_ _)); refine blk_put (cs := #[.int .u8 a0_0, .int .i64 0, .string (⟨#[]⟩ : ByteArray), .int .i64 0]) ?_ 1 _ rfl; (with_reducible repeat (first | refine blk_drewN ?_ _ | refine blk_drew ?_ | refine blk_alloc ?_ _)); refine blk_put (cs := #[.int .u8 0, .int .i64 0, .string (⟨#[]⟩ : ByteArray), .int .i64 0]) ?_ 0 _ rfl; (with_reducible repeat (first | refine blk_drewN ?_ _ | refine blk_drew ?_ | refine blk_alloc ?_ _)); exact BK126.out⟩, ⟨by repeat (first | (with_reducible first | exact HB.out | apply below_alloc | apply pw_below_drewN | apply below_drew1 | refine below_set ?_ GE124.out | refine below_set ?_ GE126.out) | exact HB.out)⟩⟩
  ·rw [if_neg c15] at H
   have c15b0 : decide (0 < a0_1) = false := decide_eq_false c15
   clear c15
   (first | rw [c15b0] | (simp only [i64_w, i32_w]; rw [c15b0]) | skip)
   have H' := Aside0.mk H
   clear H
   have hnb18 := NB124_126.out
   have hnc18 := NB126_124.out
   have hcz19_0 : w8.cell? ⟨gb124, 0, none⟩ = some (.int .u8 a0_0) := (blk_cell BK124.out 0).trans rfl
   have hcz19_1 : w8.cell? ⟨gb124, 1, none⟩ = some (.int .i64 a0_1) := (blk_cell BK124.out 1).trans rfl
   have hcz19_2 : w8.cell? ⟨gb124, 2, none⟩ = some (.string a0_2) := (blk_cell BK124.out 2).trans rfl
   have hcz19_3 : w8.cell? ⟨gb124, 3, none⟩ = some (.int .i64 a0_3) := (blk_cell BK124.out 3).trans rfl
   have hfz19_0 := blk_frozen BK124.out 0
   have hfz19_1 := blk_frozen BK124.out 1
   have hfz19_2 := blk_frozen BK124.out 2
   have hfz19_3 := blk_frozen BK124.out 3
   go_wp2
   go_meet
   case rel => exact ⟨_, (false), (by first | rfl | (simp; done) | (simp [*]; done)), H', ⟨by first | omega | exact Nat.le_refl _⟩, ⟨by (with_reducible repeat (first | refine blk_drewN ?_ _ | refine blk_drew ?_ | refine blk_alloc ?_ _)); refine blk_far ?_ NB124_126.out _; (with_reducible repeat (first | refine blk_drewN ?_ _ | refine blk_drew ?_ | refine blk_alloc ?_ _)); refine blk_far ?_ NB124_126.out _; (with_reducible repeat (first | refine blk_drewN ?_ _ | refine blk_drew ?_ | refine blk_alloc ?_ _)); refine blk_far ?_ NB124_126.out _; (with_reducible repeat (first | refine blk_drewN ?_ _ | refine blk_drew ?_ | refine blk_alloc ?_ _)); refine blk_far ?_ NB124_126.out _; (with_reducible repeat (first | refine blk_drewN ?_ _ | refine blk_drew ?_ | refine blk_alloc ?_ _)); refine blk_far ?_ NB124_126.out _; (with_reducible repeat (first | refine blk_drewN ?_ _ | refine blk_drew ?_ | refine blk_alloc ?_ _)); refine blk_far ?_ NB124_126.out _; (with_reducible repeat (first | refine blk_drewN ?_ _ | refine blk_drew ?_ | refine blk_alloc ?_ _)); exact BK124.out⟩, ⟨by (with_reducible repeat (first | refine blk_drewN ?_ _ | refine blk_drew ?_ | refine blk_alloc ?_ _)); refine blk_put (cs := #[.int .u8 0, .int .i64 a0_1, .string a0_2, .int .i64 a0_3]) ?_ 1 _ rfl; (with_reducible repeat (first | refine blk_drewN ?_ _ | refine blk_drew ?_ | refine blk_alloc ?_ _)); refine blk_put (cs := #[.int .u8 a0_0, .int .i64 a0_1, .string a0_2, .int .i64 a0_3]) ?_ 0 _ rfl; (with_reducible repeat (first | refine blk_drewN ?_ _ | refine blk_drew ?_ | refine blk_alloc ?_ _)); refine blk_put (cs := #[.int .u8 a0_0, .int .i64 a0_1, .string a0_2, .int .i64 0]) ?_ 3 _ rfl; (with_reducible repeat (first | refine blk_drewN ?_ _ | refine blk_drew ?_ | refine blk_alloc ?_ _)); refine blk_put (cs := #[.int .u8 a0_0, .int .i64 a0_1, .string (⟨#[]⟩ : ByteArray), .int .i64 0]) ?_ 2 _ rfl; (with_reducible repeat (first | refine blk_drewN ?_ _ | refine blk_drew ?_ | refine blk_alloc ?_ _)); refine blk_put (cs := #[.int .u8 a0_0, .int .i64 0, .string (⟨#[]⟩ : ByteArray), .int .i64 0]) ?_ 1 _ rfl; (with_reducible repeat (first | refine blk_drewN ?_ _ | refine blk_drew ?_ | refine blk_alloc ?_ _)); refine blk_put (cs := #[.int .u8 0, .int .i64 0, .string (⟨#[]⟩ : ByteArray), .int .i64 0]) ?_ 0 _ rfl; (with_reducible repeat (first | refine blk_drewN ?_ _ | refine blk_drew ?_ | refine blk_alloc ?_ _)); exact BK126.out⟩, ⟨by repeat (first | (with_reducible first | exact HB.out | apply below_alloc | apply pw_below_drewN | apply below_drew1 | refine below_set ?_ GE124.out | refine below_set ?_ GE126.out) | exact HB.out)⟩⟩
 case rest =>
  clear HC3
  try clear c1
  try clear p2
  try clear c6
  try clear c8
  try clear c13
  try clear c15
  try clear c15b0
  try clear c16
  try clear c18
  try clear hcz14_0
  try clear hcz14_1
  try clear hcz14_2
  try clear hcz14_3
  try clear hcz17_0
  try clear hcz17_1
  try clear hcz17_2
  try clear hcz17_3
  try clear hcz19_0
  try clear hcz19_1
  try clear hcz19_2
  try clear hcz19_3
  try clear hfz14_0
  try clear hfz14_1
  try clear hfz14_2
  try clear hfz14_3
  try clear hfz17_0
  try clear hfz17_1
  try clear hfz17_2
  try clear hfz17_3
  try clear hfz19_0
  try clear hfz19_1
  try clear hfz19_2
  try clear hfz19_3
  obtain ⟨kq, x6_2, rfl, HA, HJ2, BK124, BK126, HB⟩ := hcut
  cases kq with
  | zero => exact absurd HA.out (by simp [key_Make.j0])
  | succ kj2 =>
   have H := HA.out
   clear HA
   simp only [key_Make.j0] at H
   by_cases c20 : a0_0 = 110
   ·rw [if_pos c20] at H
    have c20b0 : (a0_0 == 110) = true := beq_iff_eq.mpr c20
    have c20b1 : (a0_0 != 110) = false := bne_eq_false_iff_eq.mpr c20
    clear c20
    obtain ⟨y127, hy127⟩ : ∃ y_ : List Int, y_ = (([a0_0] : List Int)) := ⟨_, rfl⟩
    replace H : (if a0_1 = 0 then (if (!(0 == 0) || (!(0 == 0) || (!(a0_2.toList == ([] : List UInt8)) || (!(a0_3 == 0))))) = true then (some ((⟨#[]⟩ : ByteArray), 81)) else (some (strOfNums y127, 0))) else (some ((⟨#[]⟩ : ByteArray), 81))) = some (r1, r2) := by first | (rw [hy127]; with_reducible exact H) | (have H2_ := (Option.bind_some _ _).symm.trans H; rw [hy127]; with_reducible exact H2_) | (have H2_ := (Option.bind_some _ _).symm.trans H; with_reducible exact H2_) | with_reducible exact H | (rw [hy127]; exact H) | exact H
    have Ny127 := Aside0.mk hy127
    clear hy127
    by_cases c21 : a0_1 = 0
    ·rw [if_pos c21] at H
     have c21b0 : (a0_1 == 0) = true := beq_iff_eq.mpr c21
     have c21b1 : (a0_1 != 0) = false := bne_eq_false_iff_eq.mpr c21
     clear c21
     by_cases c22 : (!(0 == 0) || (!(0 == 0) || (!(a0_2.toList == ([] : List UInt8)) || (!(a0_3 == 0))))) = true
     ·rw [if_pos c22] at H
      have c22b0 : (!(0 == 0) || (!(0 == 0) || (!(a0_2.toList == ([] : List UInt8)) || (!(a0_3 == 0))))) = true := c22
      have c22z : (!a0_2.toList.isEmpty || (!(a0_3 == 0))) = true := by have h_ := c22b0; revert h_; simp
      clear c22
      simp only [Option.some.injEq, Prod.mk.injEq] at H
      obtain ⟨rfl, rfl⟩ := H
      have hnb23 := NB124_126.out
      have hnc23 := NB126_124.out
      have hcz24_0 : wc.cell? ⟨gb124, 0, none⟩ = some (.int .u8 a0_0) := (blk_cell BK124.out 0).trans rfl
      have hcz24_1 : wc.cell? ⟨gb124, 1, none⟩ = some (.int .i64 a0_1) := (blk_cell BK124.out 1).trans rfl
      have hcz24_2 : wc.cell? ⟨gb124, 2, none⟩ = some (.string a0_2) := (blk_cell BK124.out 2).trans rfl
      have hcz24_3 : wc.cell? ⟨gb124, 3, none⟩ = some (.int .i64 a0_3) := (blk_cell BK124.out 3).trans rfl
      have hfz24_0 := blk_frozen BK124.out 0
      have hfz24_1 := blk_frozen BK124.out 1
      have hfz24_2 := blk_frozen BK124.out 2
      have hfz24_3 := blk_frozen BK124.out 3
      try go_wp2
      have n0_ := Aside0.mk (blk_drew BK124.out)
      have n1_ := Aside0.mk (blk_drew BK126.out)
      have n2_ := Aside0.mk (below_drew1 HB.out)
      clear BK124
      clear BK126
      clear HB
      have BK124 := n0_
      have BK126 := n1_
      have HB := n2_
      clear n0_ n1_ n2_
      refine start_ (n := 9) (S := fun w' => w'.cell? ⟨gb124, 0, none⟩ = some (.int .u8 a0_0) ∧ w'.cell? ⟨gb124, 1, none⟩ = some (.int .i64 a0_1) ∧ w'.cell? ⟨gb124, 2, none⟩ = some (.string a0_2) ∧ w'.cell? ⟨gb124, 3, none⟩ = some (.int .i64 a0_3)) (ds := []) #[false, false, false, false, false, false, false, false, false] (by kernel_rfl) rfl rfl ⟨(blk_cell BK124.out 0).trans rfl, (blk_cell BK124.out 1).trans rfl, (blk_cell BK124.out 2).trans rfl, (blk_cell BK124.out 3).trans rfl⟩ (fun hHeld => ?_); refine with_tabW key_Make.tab10 key_Make.bits10 (fun HT_ HW_ => ?_)
      generalize wc.drew = w25 at BK124 BK126 HB hHeld ⊢
      refine pure_ (i := 0) (N := some 35) (v := ?_) (a' := ?_) #[true, false, false, false, false, false, false, false, false] rfl rfl (any_of HT_.out (by kernel_rfl)) (fun _ _ _ h => h) (Or.inl ⟨by rfl, ?_⟩) ?_ ?_
      rotate_left
      ·intro w'
       go_simp
       with_reducible rfl
      rotate_left
      ·simp only [Act.put, List.setIfInBounds_toArray, List.set_cons_zero, List.set_cons_succ, i64_w, i32_w]
       rfl
      refine pure_ (i := 4) (N := some 39) (v := ?_) (a' := ?_) #[true, false, false, false, true, false, false, false, false] rfl rfl (any_of HT_.out (by kernel_rfl)) (fun _ _ _ h => h) (Or.inl ⟨by rfl, ?_⟩) ?_ ?_
      rotate_left
      ·intro w'
       go_simp
       with_reducible rfl
      rotate_left
      ·simp only [Act.put, List.setIfInBounds_toArray, List.set_cons_zero, List.set_cons_succ, i64_w, i32_w]
       rfl
      refine take_ (i := 1) (N := some 36) (v := ?_) (a' := ?_) #[true, true, false, false, true, false, false, false, false] rfl rfl (take_ofW HT_.out HW_.out (by kernel_rfl)) (fun _ _ _ h => h) (Or.inl ⟨by rfl, ?_⟩) hHeld ?_ ?_
      rotate_left
      ·rintro w' ⟨s0, s1, s2, s3⟩
       go_simp
       with_reducible rfl
      rotate_left
      ·simp only [Act.put, List.setIfInBounds_toArray, List.set_cons_zero, List.set_cons_succ, i64_w, i32_w]
       rfl
      refine take_ (i := 5) (N := some 40) (v := ?_) (a' := ?_) #[true, true, false, false, true, true, false, false, false] rfl rfl (take_ofW HT_.out HW_.out (by kernel_rfl)) (fun _ _ _ h => h) (Or.inl ⟨by rfl, ?_⟩) hHeld ?_ ?_
      rotate_left
      ·rintro w' ⟨s0, s1, s2, s3⟩
       go_simp
       with_reducible rfl
      rotate_left
      ·simp only [Act.put, List.setIfInBounds_toArray, List.set_cons_zero, List.set_cons_succ, i64_w, i32_w]
       rfl
      refine pure_ (i := 6) (N := some 41) (v := ?_) (a' := ?_) #[true, true, false, false, true, true, true, false, false] rfl rfl (any_of HT_.out (by kernel_rfl)) (fun _ _ _ h => h) (Or.inl ⟨by rfl, ?_⟩) ?_ ?_
      rotate_left
      ·intro w'
       go_simp
       with_reducible rfl
      rotate_left
      ·simp only [Act.put, List.setIfInBounds_toArray, List.set_cons_zero, List.set_cons_succ, i64_w, i32_w]
       rfl
      refine one_ (i := 2) (N := some 37) #[true, true, true, false, true, true, true, false, false] rfl rfl (one_of HT_.out (by kernel_rfl)) (by decide) (fun K hK => ?_)
      refine Kd.R_lit_step (Kd.int .u8) _ 5 ?hg (N := 37) ?hd (xs := ([a0_0] : List Int)) (inner := [.int .u8 a0_0]) (ok := fun _ => True) (okp := fun _ => True) ?hr ?hp (fun _ hk => hk) trivial (Below.refl _ _) (Nat.le_refl _) (by simp) ?_; (case hd => rfl); (case hg => rfl); (case hr => first | (go_simp; done) | (go_simp; rfl)); (case hp => exact (Reps.one (show Kd.M (Kd.int .u8) _ _ _ a0_0 [.int .u8 a0_0] from rfl) (Reps.none _ _)))
      intro v128 w26 ho27 hb hg_ hnew_
      clear hg_ hnew_
      (first | rw [← Ny127.out] at ho27 | (simp only [Int.reduceToNat] at ho27; rw [← Ny127.out] at ho27))
      have n0_ := Aside0.mk (Kd.R_lower ho27 (below_size (by repeat (first | (with_reducible first | exact HB.out | apply below_alloc | apply pw_below_drewN | apply below_drew1 | refine below_set ?_ GE124.out | refine below_set ?_ GE126.out) | exact HB.out))))
      have n1_ := Aside0.mk (blk_below (g := gb124) (o := .cells #[.int .u8 a0_0, .int .i64 a0_1, .string a0_2, .int .i64 a0_3] 90 (0, 0)) (by (with_reducible repeat (first | refine blk_drewN ?_ _ | refine blk_drew ?_ | refine blk_alloc ?_ _)); exact BK124.out) hb)
      have n2_ := Aside0.mk (blk_below (g := gb126) (o := .cells #[.int .u8 0, .int .i64 0, .string a0_2, .int .i64 a0_3] 90 (0, 0)) (by (with_reducible repeat (first | refine blk_drewN ?_ _ | refine blk_drew ?_ | refine blk_alloc ?_ _)); exact BK126.out) hb)
      have n3_ := Aside0.mk (below_step (by repeat (first | (with_reducible first | exact HB.out | apply below_alloc | apply pw_below_drewN | apply below_drew1 | refine below_set ?_ GE124.out | refine below_set ?_ GE126.out) | exact HB.out)) hb)
      clear BK124
      clear BK126
      clear HB
      have HO129 := n0_
      have BK124 := n1_
      have BK126 := n2_
      have HB := n3_
      clear n0_ n1_ n2_ n3_
      clear hb ho27
      refine hK.out _ _ ⟨(blk_cell BK124.out 0).trans rfl, (blk_cell BK124.out 1).trans rfl, (blk_cell BK124.out 2).trans rfl, (blk_cell BK124.out 3).trans rfl⟩ (fun hHeld => ?_)
      clear hK K
      refine norm_ (a' := ?_) ?_ ?_
      rotate_left
      ·show Act.put _ (some 37) _ = _
       simp only [Act.put, List.setIfInBounds_toArray, List.set_cons_zero, List.set_cons_succ, i64_w, i32_w]
       rfl
      refine one_ (i := 3) (N := some 38) #[true, true, true, true, true, true, true, false, false] rfl rfl (one_of HT_.out (by kernel_rfl)) (by decide) (fun K hK => ?_)
      have hcv28 := own_string (P := Try.prog) Try.underlying124 Try.underlying5 Try.underlying9 (Kd.own_of_R HO129.out)
      refine value_ (w1 := ?_) (v := ?_) (by rfl) rfl ?_ ?_
      rotate_left 2
      ·go_simp
       constructor
       ·rfl
       ·rfl
      clear hcv28
      refine hK.out _ _ ⟨(blk_cell BK124.out 0).trans rfl, (blk_cell BK124.out 1).trans rfl, (blk_cell BK124.out 2).trans rfl, (blk_cell BK124.out 3).trans rfl⟩ (fun hHeld => ?_)
      clear hK K
      refine norm_ (a' := ?_) ?_ ?_
      rotate_left
      ·show Act.put _ (some 38) _ = _
       simp only [Act.put, List.setIfInBounds_toArray, List.set_cons_zero, List.set_cons_succ, i64_w, i32_w]
       rfl
      refine pure_ (i := 7) (N := some 4) (v := ?_) (a' := ?_) #[true, true, true, true, true, true, true, true, false] rfl rfl (any_of HT_.out (by kernel_rfl)) (fun _ _ _ h => h) (Or.inl ⟨by rfl, ?_⟩) ?_ ?_
      rotate_left
      ·intro w'
       go_simp
       with_reducible rfl
      rotate_left
      ·simp only [Act.put, List.setIfInBounds_toArray, List.set_cons_zero, List.set_cons_succ, i64_w, i32_w]
       rfl
      refine pure_ (i := 8) (N := some 6) (v := ?_) (a' := ?_) #[true, true, true, true, true, true, true, true, true] rfl rfl (any_of HT_.out (by kernel_rfl)) (fun _ _ _ h => h) (Or.inl ⟨by rfl, ?_⟩) ?_ ?_
      rotate_left
      ·intro w'
       go_simp
       with_reducible rfl
      rotate_left
      ·simp only [Act.put, List.setIfInBounds_toArray, List.set_cons_zero, List.set_cons_succ, i64_w, i32_w]
       rfl
      refine done_ (done_of HT_.out (by kernel_rfl)) ?_
      have hcz29_0 : w26.cell? ⟨gb126, 0, none⟩ = some (.int .u8 0) := (blk_cell BK126.out 0).trans rfl
      have hcz29_1 : w26.cell? ⟨gb126, 1, none⟩ = some (.int .i64 0) := (blk_cell BK126.out 1).trans rfl
      have hcz29_2 : w26.cell? ⟨gb126, 2, none⟩ = some (.string a0_2) := (blk_cell BK126.out 2).trans rfl
      have hcz29_3 : w26.cell? ⟨gb126, 3, none⟩ = some (.int .i64 a0_3) := (blk_cell BK126.out 3).trans rfl
      have hfz29_0 := blk_frozen BK126.out 0
      have hfz29_1 := blk_frozen BK126.out 1
      have hfz29_2 := blk_frozen BK126.out 2
      have hfz29_3 := blk_frozen BK126.out 3
      try go_wp2
      go_ret2
      exact ⟨by first | rfl | (simp [errW_none, errW_some] <;> rfl) | (simp [*, errW_none, errW_some] <;> rfl), by repeat (first | (with_reducible first | exact HB.out | apply below_alloc | apply pw_below_drewN | apply below_drew1 | refine below_set ?_ GE124.out | refine below_set ?_ GE126.out) | exact HB.out)⟩
     ·rw [if_neg c22] at H
      have c22b0 : (!(0 == 0) || (!(0 == 0) || (!(a0_2.toList == ([] : List UInt8)) || (!(a0_3 == 0))))) = false := by simpa using c22
      have c22z : (!a0_2.toList.isEmpty || (!(a0_3 == 0))) = false := by have h_ := c22b0; revert h_; simp
      clear c22
      simp only [Option.some.injEq, Prod.mk.injEq] at H
      obtain ⟨rfl, rfl⟩ := H
      have hnb30 := NB124_126.out
      have hnc30 := NB126_124.out
      have hcz31_0 : wc.cell? ⟨gb124, 0, none⟩ = some (.int .u8 a0_0) := (blk_cell BK124.out 0).trans rfl
      have hcz31_1 : wc.cell? ⟨gb124, 1, none⟩ = some (.int .i64 a0_1) := (blk_cell BK124.out 1).trans rfl
      have hcz31_2 : wc.cell? ⟨gb124, 2, none⟩ = some (.string a0_2) := (blk_cell BK124.out 2).trans rfl
      have hcz31_3 : wc.cell? ⟨gb124, 3, none⟩ = some (.int .i64 a0_3) := (blk_cell BK124.out 3).trans rfl
      have hfz31_0 := blk_frozen BK124.out 0
      have hfz31_1 := blk_frozen BK124.out 1
      have hfz31_2 := blk_frozen BK124.out 2
      have hfz31_3 := blk_frozen BK124.out 3
      try go_wp2
      have n0_ := Aside0.mk (blk_drew BK124.out)
      have n1_ := Aside0.mk (blk_drew BK126.out)
      have n2_ := Aside0.mk (below_drew1 HB.out)
      clear BK124
      clear BK126
      clear HB
      have BK124 := n0_
      have BK126 := n1_
      have HB := n2_
      clear n0_ n1_ n2_
      refine start_ (n := 9) (S := fun w' => w'.cell? ⟨gb124, 0, none⟩ = some (.int .u8 a0_0) ∧ w'.cell? ⟨gb124, 1, none⟩ = some (.int .i64 a0_1) ∧ w'.cell? ⟨gb124, 2, none⟩ = some (.string a0_2) ∧ w'.cell? ⟨gb124, 3, none⟩ = some (.int .i64 a0_3)) (ds := []) #[false, false, false, false, false, false, false, false, false] (by kernel_rfl) rfl rfl ⟨(blk_cell BK124.out 0).trans rfl, (blk_cell BK124.out 1).trans rfl, (blk_cell BK124.out 2).trans rfl, (blk_cell BK124.out 3).trans rfl⟩ (fun hHeld => ?_); refine with_tabW key_Make.tab10 key_Make.bits10 (fun HT_ HW_ => ?_)
      generalize wc.drew = w32 at BK124 BK126 HB hHeld ⊢
      refine pure_ (i := 0) (N := some 35) (v := ?_) (a' := ?_) #[true, false, false, false, false, false, false, false, false] rfl rfl (any_of HT_.out (by kernel_rfl)) (fun _ _ _ h => h) (Or.inl ⟨by rfl, ?_⟩) ?_ ?_
      rotate_left
      ·intro w'
       go_simp
       with_reducible rfl
      rotate_left
      ·simp only [Act.put, List.setIfInBounds_toArray, List.set_cons_zero, List.set_cons_succ, i64_w, i32_w]
       rfl
      refine pure_ (i := 4) (N := some 39) (v := ?_) (a' := ?_) #[true, false, false, false, true, false, false, false, false] rfl rfl (any_of HT_.out (by kernel_rfl)) (fun _ _ _ h => h) (Or.inl ⟨by rfl, ?_⟩) ?_ ?_
      rotate_left
      ·intro w'
       go_simp
       with_reducible rfl
      rotate_left
      ·simp only [Act.put, List.setIfInBounds_toArray, List.set_cons_zero, List.set_cons_succ, i64_w, i32_w]
       rfl
      refine take_ (i := 1) (N := some 36) (v := ?_) (a' := ?_) #[true, true, false, false, true, false, false, false, false] rfl rfl (take_ofW HT_.out HW_.out (by kernel_rfl)) (fun _ _ _ h => h) (Or.inl ⟨by rfl, ?_⟩) hHeld ?_ ?_
      rotate_left
      ·rintro w' ⟨s0, s1, s2, s3⟩
       go_simp
       with_reducible rfl
      rotate_left
      ·simp only [Act.put, List.setIfInBounds_toArray, List.set_cons_zero, List.set_cons_succ, i64_w, i32_w]
       rfl
      refine take_ (i := 5) (N := some 40) (v := ?_) (a' := ?_) #[true, true, false, false, true, true, false, false, false] rfl rfl (take_ofW HT_.out HW_.out (by kernel_rfl)) (fun _ _ _ h => h) (Or.inl ⟨by rfl, ?_⟩) hHeld ?_ ?_
      rotate_left
      ·rintro w' ⟨s0, s1, s2, s3⟩
       go_simp
       with_reducible rfl
      rotate_left
      ·simp only [Act.put, List.setIfInBounds_toArray, List.set_cons_zero, List.set_cons_succ, i64_w, i32_w]
       rfl
      refine pure_ (i := 6) (N := some 41) (v := ?_) (a' := ?_) #[true, true, false, false, true, true, true, false, false] rfl rfl (any_of HT_.out (by kernel_rfl)) (fun _ _ _ h => h) (Or.inl ⟨by rfl, ?_⟩) ?_ ?_
      rotate_left
      ·intro w'
       go_simp
       with_reducible rfl
      rotate_left
      ·simp only [Act.put, List.setIfInBounds_toArray, List.set_cons_zero, List.set_cons_succ, i64_w, i32_w]
       rfl
      refine one_ (i := 2) (N := some 37) #[true, true, true, false, true, true, true, false, false] rfl rfl (one_of HT_.out (by kernel_rfl)) (by decide) (fun K hK => ?_)
      refine Kd.R_lit_step (Kd.int .u8) _ 5 ?hg (N := 37) ?hd (xs := ([a0_0] : List Int)) (inner := [.int .u8 a0_0]) (ok := fun _ => True) (okp := fun _ => True) ?hr ?hp (fun _ hk => hk) trivial (Below.refl _ _) (Nat.le_refl _) (by simp) ?_; (case hd => rfl); (case hg => rfl); (case hr => first | (go_simp; done) | (go_simp; rfl)); (case hp => exact (Reps.one (show Kd.M (Kd.int .u8) _ _ _ a0_0 [.int .u8 a0_0] from rfl) (Reps.none _ _)))
      intro v128 w33 ho34 hb hg_ hnew_
      clear hg_ hnew_
      (first | rw [← Ny127.out] at ho34 | (simp only [Int.reduceToNat] at ho34; rw [← Ny127.out] at ho34))
      have n0_ := Aside0.mk (Kd.R_lower ho34 (below_size (by repeat (first | (with_reducible first | exact HB.out | apply below_alloc | apply pw_below_drewN | apply below_drew1 | refine below_set ?_ GE124.out | refine below_set ?_ GE126.out) | exact HB.out))))
      have n1_ := Aside0.mk (blk_below (g := gb124) (o := .cells #[.int .u8 a0_0, .int .i64 a0_1, .string a0_2, .int .i64 a0_3] 90 (0, 0)) (by (with_reducible repeat (first | refine blk_drewN ?_ _ | refine blk_drew ?_ | refine blk_alloc ?_ _)); exact BK124.out) hb)
      have n2_ := Aside0.mk (blk_below (g := gb126) (o := .cells #[.int .u8 0, .int .i64 0, .string a0_2, .int .i64 a0_3] 90 (0, 0)) (by (with_reducible repeat (first | refine blk_drewN ?_ _ | refine blk_drew ?_ | refine blk_alloc ?_ _)); exact BK126.out) hb)
      have n3_ := Aside0.mk (below_step (by repeat (first | (with_reducible first | exact HB.out | apply below_alloc | apply pw_below_drewN | apply below_drew1 | refine below_set ?_ GE124.out | refine below_set ?_ GE126.out) | exact HB.out)) hb)
      clear BK124
      clear BK126
      clear HB
      have HO129 := n0_
      have BK124 := n1_
      have BK126 := n2_
      have HB := n3_
      clear n0_ n1_ n2_ n3_
      clear hb ho34
      refine hK.out _ _ ⟨(blk_cell BK124.out 0).trans rfl, (blk_cell BK124.out 1).trans rfl, (blk_cell BK124.out 2).trans rfl, (blk_cell BK124.out 3).trans rfl⟩ (fun hHeld => ?_)
      clear hK K
      refine norm_ (a' := ?_) ?_ ?_
      rotate_left
      ·show Act.put _ (some 37) _ = _
       simp only [Act.put, List.setIfInBounds_toArray, List.set_cons_zero, List.set_cons_succ, i64_w, i32_w]
       rfl
      refine one_ (i := 3) (N := some 38) #[true, true, true, true, true, true, true, false, false] rfl rfl (one_of HT_.out (by kernel_rfl)) (by decide) (fun K hK => ?_)
      have hcv35 := own_string (P := Try.prog) Try.underlying124 Try.underlying5 Try.underlying9 (Kd.own_of_R HO129.out)
      refine value_ (w1 := ?_) (v := ?_) (by rfl) rfl ?_ ?_
      rotate_left 2
      ·go_simp
       constructor
       ·rfl
       ·rfl
      clear hcv35
      refine hK.out _ _ ⟨(blk_cell BK124.out 0).trans rfl, (blk_cell BK124.out 1).trans rfl, (blk_cell BK124.out 2).trans rfl, (blk_cell BK124.out 3).trans rfl⟩ (fun hHeld => ?_)
      clear hK K
      refine norm_ (a' := ?_) ?_ ?_
      rotate_left
      ·show Act.put _ (some 38) _ = _
       simp only [Act.put, List.setIfInBounds_toArray, List.set_cons_zero, List.set_cons_succ, i64_w, i32_w]
       rfl
      refine pure_ (i := 7) (N := some 4) (v := ?_) (a' := ?_) #[true, true, true, true, true, true, true, true, false] rfl rfl (any_of HT_.out (by kernel_rfl)) (fun _ _ _ h => h) (Or.inl ⟨by rfl, ?_⟩) ?_ ?_
      rotate_left
      ·intro w'
       go_simp
       with_reducible rfl
      rotate_left
      ·simp only [Act.put, List.setIfInBounds_toArray, List.set_cons_zero, List.set_cons_succ, i64_w, i32_w]
       rfl
      refine pure_ (i := 8) (N := some 6) (v := ?_) (a' := ?_) #[true, true, true, true, true, true, true, true, true] rfl rfl (any_of HT_.out (by kernel_rfl)) (fun _ _ _ h => h) (Or.inl ⟨by rfl, ?_⟩) ?_ ?_
      rotate_left
      ·intro w'
       go_simp
       with_reducible rfl
      rotate_left
      ·simp only [Act.put, List.setIfInBounds_toArray, List.set_cons_zero, List.set_cons_succ, i64_w, i32_w]
       rfl
      refine done_ (done_of HT_.out (by kernel_rfl)) ?_
      have hcz36_0 : w33.cell? ⟨gb126, 0, none⟩ = some (.int .u8 0) := (blk_cell BK126.out 0).trans rfl
      have hcz36_1 : w33.cell? ⟨gb126, 1, none⟩ = some (.int .i64 0) := (blk_cell BK126.out 1).trans rfl
      have hcz36_2 : w33.cell? ⟨gb126, 2, none⟩ = some (.string a0_2) := (blk_cell BK126.out 2).trans rfl
      have hcz36_3 : w33.cell? ⟨gb126, 3, none⟩ = some (.int .i64 a0_3) := (blk_cell BK126.out 3).trans rfl
      have hfz36_0 := blk_frozen BK126.out 0
      have hfz36_1 := blk_frozen BK126.out 1
      have hfz36_2 := blk_frozen BK126.out 2
      have hfz36_3 := blk_frozen BK126.out 3
      try go_wp2
      go_ret2
      exact ⟨by first | rfl | (simp [errW_none, errW_some] <;> rfl) | (simp [*, errW_none, errW_some] <;> rfl), by repeat (first | (with_reducible first | exact HB.out | apply below_alloc | apply pw_below_drewN | apply below_drew1 | refine below_set ?_ GE124.out | refine below_set ?_ GE126.out) | exact HB.out)⟩
    ·rw [if_neg c21] at H
     have c21b0 : (a0_1 == 0) = false := beq_eq_false_iff_ne.mpr c21
     have c21b1 : (a0_1 != 0) = true := bne_iff_ne.mpr c21
     simp only [Option.some.injEq, Prod.mk.injEq] at H
     obtain ⟨rfl, rfl⟩ := H
     have hnb37 := NB124_126.out
     have hnc37 := NB126_124.out
     have hcz38_0 : wc.cell? ⟨gb124, 0, none⟩ = some (.int .u8 a0_0) := (blk_cell BK124.out 0).trans rfl
     have hcz38_1 : wc.cell? ⟨gb124, 1, none⟩ = some (.int .i64 a0_1) := (blk_cell BK124.out 1).trans rfl
     have hcz38_2 : wc.cell? ⟨gb124, 2, none⟩ = some (.string a0_2) := (blk_cell BK124.out 2).trans rfl
     have hcz38_3 : wc.cell? ⟨gb124, 3, none⟩ = some (.int .i64 a0_3) := (blk_cell BK124.out 3).trans rfl
     have hfz38_0 := blk_frozen BK124.out 0
     have hfz38_1 := blk_frozen BK124.out 1
     have hfz38_2 := blk_frozen BK124.out 2
     have hfz38_3 := blk_frozen BK124.out 3
     try go_wp2
     have n0_ := Aside0.mk (blk_drew BK124.out)
     have n1_ := Aside0.mk (blk_drew BK126.out)
     have n2_ := Aside0.mk (below_drew1 HB.out)
     clear BK124
     clear BK126
     clear HB
     have BK124 := n0_
     have BK126 := n1_
     have HB := n2_
     clear n0_ n1_ n2_
     refine start_ (n := 9) (S := fun w' => w'.cell? ⟨gb124, 0, none⟩ = some (.int .u8 a0_0) ∧ w'.cell? ⟨gb124, 1, none⟩ = some (.int .i64 a0_1) ∧ w'.cell? ⟨gb124, 2, none⟩ = some (.string a0_2) ∧ w'.cell? ⟨gb124, 3, none⟩ = some (.int .i64 a0_3)) (ds := []) #[false, false, false, false, false, false, false, false, false] (by kernel_rfl) rfl rfl ⟨(blk_cell BK124.out 0).trans rfl, (blk_cell BK124.out 1).trans rfl, (blk_cell BK124.out 2).trans rfl, (blk_cell BK124.out 3).trans rfl⟩ (fun hHeld => ?_); refine with_tabW key_Make.tab10 key_Make.bits10 (fun HT_ HW_ => ?_)
     generalize wc.drew = w39 at BK124 BK126 HB hHeld ⊢
     refine pure_ (i := 0) (N := some 35) (v := ?_) (a' := ?_) #[true, false, false, false, false, false, false, false, false] rfl rfl (any_of HT_.out (by kernel_rfl)) (fun _ _ _ h => h) (Or.inl ⟨by rfl, ?_⟩) ?_ ?_
     rotate_left
     ·intro w'
      go_simp
      with_reducible rfl
     rotate_left
     ·simp only [Act.put, List.setIfInBounds_toArray, List.set_cons_zero, List.set_cons_succ, i64_w, i32_w]
      rfl
     refine pure_ (i := 4) (N := some 39) (v := ?_) (a' := ?_) #[true, false, false, false, true, false, false, false, false] rfl rfl (any_of HT_.out (by kernel_rfl)) (fun _ _ _ h => h) (Or.inl ⟨by rfl, ?_⟩) ?_ ?_
     rotate_left
     ·intro w'
      go_simp
      with_reducible rfl
     rotate_left
     ·simp only [Act.put, List.setIfInBounds_toArray, List.set_cons_zero, List.set_cons_succ, i64_w, i32_w]
      rfl
     refine take_ (i := 1) (N := some 36) (v := ?_) (a' := ?_) #[true, true, false, false, true, false, false, false, false] rfl rfl (take_ofW HT_.out HW_.out (by kernel_rfl)) (fun _ _ _ h => h) (Or.inl ⟨by rfl, ?_⟩) hHeld ?_ ?_
     rotate_left
     ·rintro w' ⟨s0, s1, s2, s3⟩
      go_simp
      with_reducible rfl
     rotate_left
     ·simp only [Act.put, List.setIfInBounds_toArray, List.set_cons_zero, List.set_cons_succ, i64_w, i32_w]
      rfl
     refine take_ (i := 5) (N := some 40) (v := ?_) (a' := ?_) #[true, true, false, false, true, true, false, false, false] rfl rfl (take_ofW HT_.out HW_.out (by kernel_rfl)) (fun _ _ _ h => h) (Or.inl ⟨by rfl, ?_⟩) hHeld ?_ ?_
     rotate_left
     ·rintro w' ⟨s0, s1, s2, s3⟩
      go_simp
      with_reducible rfl
     rotate_left
     ·simp only [Act.put, List.setIfInBounds_toArray, List.set_cons_zero, List.set_cons_succ, i64_w, i32_w]
      rfl
     refine pure_ (i := 6) (N := some 41) (v := ?_) (a' := ?_) #[true, true, false, false, true, true, true, false, false] rfl rfl (any_of HT_.out (by kernel_rfl)) (fun _ _ _ h => h) (Or.inl ⟨by rfl, ?_⟩) ?_ ?_
     rotate_left
     ·intro w'
      go_simp
      with_reducible rfl
     rotate_left
     ·simp only [Act.put, List.setIfInBounds_toArray, List.set_cons_zero, List.set_cons_succ, i64_w, i32_w]
      rfl
     refine one_ (i := 2) (N := some 37) #[true, true, true, false, true, true, true, false, false] rfl rfl (one_of HT_.out (by kernel_rfl)) (by decide) (fun K hK => ?_)
     refine Kd.R_lit_step (Kd.int .u8) _ 5 ?hg (N := 37) ?hd (xs := ([a0_0] : List Int)) (inner := [.int .u8 a0_0]) (ok := fun _ => True) (okp := fun _ => True) ?hr ?hp (fun _ hk => hk) trivial (Below.refl _ _) (Nat.le_refl _) (by simp) ?_; (case hd => rfl); (case hg => rfl); (case hr => first | (go_simp; done) | (go_simp; rfl)); (case hp => exact (Reps.one (show Kd.M (Kd.int .u8) _ _ _ a0_0 [.int .u8 a0_0] from rfl) (Reps.none _ _)))
     intro v128 w40 ho41 hb hg_ hnew_
     clear hg_ hnew_
     (first | rw [← Ny127.out] at ho41 | (simp only [Int.reduceToNat] at ho41; rw [← Ny127.out] at ho41))
     have n0_ := Aside0.mk (Kd.R_lower ho41 (below_size (by repeat (first | (with_reducible first | exact HB.out | apply below_alloc | apply pw_below_drewN | apply below_drew1 | refine below_set ?_ GE124.out | refine below_set ?_ GE126.out) | exact HB.out))))
     have n1_ := Aside0.mk (blk_below (g := gb124) (o := .cells #[.int .u8 a0_0, .int .i64 a0_1, .string a0_2, .int .i64 a0_3] 90 (0, 0)) (by (with_reducible repeat (first | refine blk_drewN ?_ _ | refine blk_drew ?_ | refine blk_alloc ?_ _)); exact BK124.out) hb)
     have n2_ := Aside0.mk (blk_below (g := gb126) (o := .cells #[.int .u8 0, .int .i64 0, .string a0_2, .int .i64 a0_3] 90 (0, 0)) (by (with_reducible repeat (first | refine blk_drewN ?_ _ | refine blk_drew ?_ | refine blk_alloc ?_ _)); exact BK126.out) hb)
     have n3_ := Aside0.mk (below_step (by repeat (first | (with_reducible first | exact HB.out | apply below_alloc | apply pw_below_drewN | apply below_drew1 | refine below_set ?_ GE124.out | refine below_set ?_ GE126.out) | exact HB.out)) hb)
     clear BK124
     clear BK126
     clear HB
     have HO129 := n0_
     have BK124 := n1_
     have BK126 := n2_
     have HB := n3_
     clear n0_ n1_ n2_ n3_
     clear hb ho41
     refine hK.out _ _ ⟨(blk_cell BK124.out 0).trans rfl, (blk_cell BK124.out 1).trans rfl, (blk_cell BK124.out 2).trans rfl, (blk_cell BK124.out 3).trans rfl⟩ (fun hHeld => ?_)
     clear hK K
     refine norm_ (a' := ?_) ?_ ?_
     rotate_left
     ·show Act.put _ (some 37) _ = _
      simp only [Act.put, List.setIfInBounds_toArray, List.set_cons_zero, List.set_cons_succ, i64_w, i32_w]
      rfl
     refine one_ (i := 3) (N := some 38) #[true, true, true, true, true, true, true, false, false] rfl rfl (one_of HT_.out (by kernel_rfl)) (by decide) (fun K hK => ?_)
     have hcv42 := own_string (P := Try.prog) Try.underlying124 Try.underlying5 Try.underlying9 (Kd.own_of_R HO129.out)
     refine value_ (w1 := ?_) (v := ?_) (by rfl) rfl ?_ ?_
     rotate_left 2
     ·go_simp
      constructor
      ·rfl
      ·rfl
     clear hcv42
     refine hK.out _ _ ⟨(blk_cell BK124.out 0).trans rfl, (blk_cell BK124.out 1).trans rfl, (blk_cell BK124.out 2).trans rfl, (blk_cell BK124.out 3).trans rfl⟩ (fun hHeld => ?_)
     clear hK K
     refine norm_ (a' := ?_) ?_ ?_
     rotate_left
     ·show Act.put _ (some 38) _ = _
      simp only [Act.put, List.setIfInBounds_toArray, List.set_cons_zero, List.set_cons_succ, i64_w, i32_w]
      rfl
     refine pure_ (i := 7) (N := some 4) (v := ?_) (a' := ?_) #[true, true, true, true, true, true, true, true, false] rfl rfl (any_of HT_.out (by kernel_rfl)) (fun _ _ _ h => h) (Or.inl ⟨by rfl, ?_⟩) ?_ ?_
     rotate_left
     ·intro w'
      go_simp
      with_reducible rfl
     rotate_left
     ·simp only [Act.put, List.setIfInBounds_toArray, List.set_cons_zero, List.set_cons_succ, i64_w, i32_w]
      rfl
     refine pure_ (i := 8) (N := some 6) (v := ?_) (a' := ?_) #[true, true, true, true, true, true, true, true, true] rfl rfl (any_of HT_.out (by kernel_rfl)) (fun _ _ _ h => h) (Or.inl ⟨by rfl, ?_⟩) ?_ ?_
     rotate_left
     ·intro w'
      go_simp
      with_reducible rfl
     rotate_left
     ·simp only [Act.put, List.setIfInBounds_toArray, List.set_cons_zero, List.set_cons_succ, i64_w, i32_w]
      rfl
     refine done_ (done_of HT_.out (by kernel_rfl)) ?_
     try go_wp2
     go_ret2
     exact ⟨by first | rfl | (simp [errW_none, errW_some] <;> rfl) | (simp [*, errW_none, errW_some] <;> rfl), by repeat (first | (with_reducible first | exact HB.out | apply below_alloc | apply pw_below_drewN | apply below_drew1 | refine below_set ?_ GE124.out | refine below_set ?_ GE126.out) | exact HB.out)⟩
   ·rw [if_neg c20] at H
    have c20b0 : (a0_0 == 110) = false := beq_eq_false_iff_ne.mpr c20
    have c20b1 : (a0_0 != 110) = true := bne_iff_ne.mpr c20
    by_cases c43 : a0_0 = 100
    ·rw [if_pos c43] at H
     have c43b0 : (a0_0 == 100) = true := beq_iff_eq.mpr c43
     have c43b1 : (a0_0 != 100) = false := bne_eq_false_iff_eq.mpr c43
     clear c43
     by_cases c44 : t125.size + a0_2.size ≤ 9223372036854775807
     ·rw [if_pos c44] at H
      have c44b0 := eq_true c44
      have c44b1 : decide (t125.size + a0_2.size ≤ 9223372036854775807) = true := decide_eq_true c44
      try have c44b2 : (9223372036854775807 < t125.size + a0_2.size) = False := eq_false (Nat.not_lt.2 c44)
      by_cases c45 : x6_2 = true
      ·subst c45
       have H1 : (if a0_2.toList = ([] : List UInt8) then (some ((⟨#[]⟩ : ByteArray), 81)) else (if ((a0_2.size : Int) ≤ 255) then (if (!(0 == 0) || (!(0 == 0) || (!(a0_3 == 0)))) = true then (some ((⟨#[]⟩ : ByteArray), 81)) else (some (t125 ++ a0_2, 0))) else (some ((⟨#[]⟩ : ByteArray), 81)))) = some (r1, r2) := by rw [if_pos rfl] at H; exact H
       clear H
       have H := H1
       clear H1
       by_cases c46 : a0_2.toList = ([] : List UInt8)
       ·rw [if_pos c46] at H
        have c46b0 : (a0_2.toList == ([] : List UInt8)) = true := beq_iff_eq.mpr c46
        have c46b1 : (a0_2.toList != ([] : List UInt8)) = false := bne_eq_false_iff_eq.mpr c46
        clear c46
        simp only [Option.some.injEq, Prod.mk.injEq] at H
        obtain ⟨rfl, rfl⟩ := H
        have hnb47 := NB124_126.out
        have hnc47 := NB126_124.out
        have hcz48_0 : wc.cell? ⟨gb124, 0, none⟩ = some (.int .u8 a0_0) := (blk_cell BK124.out 0).trans rfl
        have hcz48_1 : wc.cell? ⟨gb124, 1, none⟩ = some (.int .i64 a0_1) := (blk_cell BK124.out 1).trans rfl
        have hcz48_2 : wc.cell? ⟨gb124, 2, none⟩ = some (.string a0_2) := (blk_cell BK124.out 2).trans rfl
        have hcz48_3 : wc.cell? ⟨gb124, 3, none⟩ = some (.int .i64 a0_3) := (blk_cell BK124.out 3).trans rfl
        have hfz48_0 := blk_frozen BK124.out 0
        have hfz48_1 := blk_frozen BK124.out 1
        have hfz48_2 := blk_frozen BK124.out 2
        have hfz48_3 := blk_frozen BK124.out 3
        have hcz49_0 : wc.cell? ⟨gb126, 0, none⟩ = some (.int .u8 0) := (blk_cell BK126.out 0).trans rfl
        have hcz49_1 : wc.cell? ⟨gb126, 1, none⟩ = some (.int .i64 0) := (blk_cell BK126.out 1).trans rfl
        have hcz49_2 : wc.cell? ⟨gb126, 2, none⟩ = some (.string a0_2) := (blk_cell BK126.out 2).trans rfl
        have hcz49_3 : wc.cell? ⟨gb126, 3, none⟩ = some (.int .i64 a0_3) := (blk_cell BK126.out 3).trans rfl
        have hfz49_0 := blk_frozen BK126.out 0
        have hfz49_1 := blk_frozen BK126.out 1
        have hfz49_2 := blk_frozen BK126.out 2
        have hfz49_3 := blk_frozen BK126.out 3
        go_wp2
        go_ret2
        exact ⟨by first | rfl | (simp [errW_none, errW_some] <;> rfl) | (simp [*, errW_none, errW_some] <;> rfl), by repeat (first | (with_reducible first | exact HB.out | apply below_alloc | apply pw_below_drewN | apply below_drew1 | refine below_set ?_ GE124.out | refine below_set ?_ GE126.out) | exact HB.out)⟩
       ·rw [if_neg c46] at H
        have c46b0 : (a0_2.toList == ([] : List UInt8)) = false := beq_eq_false_iff_ne.mpr c46
        have c46b1 : (a0_2.toList != ([] : List UInt8)) = true := bne_iff_ne.mpr c46
        by_cases c50 : ((a0_2.size : Int) ≤ 255)
        ·rw [if_pos c50] at H
         have c50b0 : decide ((a0_2.size : Int) ≤ 255) = true := decide_eq_true c50
         have c50b1 : decide (a0_2.size ≤ 255) = true := decide_eq_true (by omega)
         clear c50
         by_cases c51 : (!(0 == 0) || (!(0 == 0) || (!(a0_3 == 0)))) = true
         ·rw [if_pos c51] at H
          have c51b0 : (!(0 == 0) || (!(0 == 0) || (!(a0_3 == 0)))) = true := c51
          have c51z : (!(a0_3 == 0)) = true := by have h_ := c51b0; revert h_; simp
          clear c51
          simp only [Option.some.injEq, Prod.mk.injEq] at H
          obtain ⟨rfl, rfl⟩ := H
          have hnb52 := NB124_126.out
          have hnc52 := NB126_124.out
          have hcz53_0 : wc.cell? ⟨gb124, 0, none⟩ = some (.int .u8 a0_0) := (blk_cell BK124.out 0).trans rfl
          have hcz53_1 : wc.cell? ⟨gb124, 1, none⟩ = some (.int .i64 a0_1) := (blk_cell BK124.out 1).trans rfl
          have hcz53_2 : wc.cell? ⟨gb124, 2, none⟩ = some (.string a0_2) := (blk_cell BK124.out 2).trans rfl
          have hcz53_3 : wc.cell? ⟨gb124, 3, none⟩ = some (.int .i64 a0_3) := (blk_cell BK124.out 3).trans rfl
          have hfz53_0 := blk_frozen BK124.out 0
          have hfz53_1 := blk_frozen BK124.out 1
          have hfz53_2 := blk_frozen BK124.out 2
          have hfz53_3 := blk_frozen BK124.out 3
          have hcz54_0 : wc.cell? ⟨gb126, 0, none⟩ = some (.int .u8 0) := (blk_cell BK126.out 0).trans rfl
          have hcz54_1 : wc.cell? ⟨gb126, 1, none⟩ = some (.int .i64 0) := (blk_cell BK126.out 1).trans rfl
          have hcz54_2 : wc.cell? ⟨gb126, 2, none⟩ = some (.string a0_2) := (blk_cell BK126.out 2).trans rfl
          have hcz54_3 : wc.cell? ⟨gb126, 3, none⟩ = some (.int .i64 a0_3) := (blk_cell BK126.out 3).trans rfl
          have hfz54_0 := blk_frozen BK126.out 0
          have hfz54_1 := blk_frozen BK126.out 1
          have hfz54_2 := blk_frozen BK126.out 2
          have hfz54_3 := blk_frozen BK126.out 3
          go_wp2
          go_ret2
          exact ⟨by first | rfl | (simp [errW_none, errW_some] <;> rfl) | (simp [*, errW_none, errW_some] <;> rfl), by repeat (first | (with_reducible first | exact HB.out | apply below_alloc | apply pw_below_drewN | apply below_drew1 | refine below_set ?_ GE124.out | refine below_set ?_ GE126.out) | exact HB.out)⟩
         ·rw [if_neg c51] at H
          have c51b0 : (!(0 == 0) || (!(0 == 0) || (!(a0_3 == 0)))) = false := by simpa using c51
          have c51z : (!(a0_3 == 0)) = false := by have h_ := c51b0; revert h_; simp
          clear c51
          simp only [Option.some.injEq, Prod.mk.injEq] at H
          obtain ⟨rfl, rfl⟩ := H
          have hnb55 := NB124_126.out
          have hnc55 := NB126_124.out
          have hcz56_0 : wc.cell? ⟨gb124, 0, none⟩ = some (.int .u8 a0_0) := (blk_cell BK124.out 0).trans rfl
          have hcz56_1 : wc.cell? ⟨gb124, 1, none⟩ = some (.int .i64 a0_1) := (blk_cell BK124.out 1).trans rfl
          have hcz56_2 : wc.cell? ⟨gb124, 2, none⟩ = some (.string a0_2) := (blk_cell BK124.out 2).trans rfl
          have hcz56_3 : wc.cell? ⟨gb124, 3, none⟩ = some (.int .i64 a0_3) := (blk_cell BK124.out 3).trans rfl
          have hfz56_0 := blk_frozen BK124.out 0
          have hfz56_1 := blk_frozen BK124.out 1
          have hfz56_2 := blk_frozen BK124.out 2
          have hfz56_3 := blk_frozen BK124.out 3
          have hcz57_0 : wc.cell? ⟨gb126, 0, none⟩ = some (.int .u8 0) := (blk_cell BK126.out 0).trans rfl
          have hcz57_1 : wc.cell? ⟨gb126, 1, none⟩ = some (.int .i64 0) := (blk_cell BK126.out 1).trans rfl
          have hcz57_2 : wc.cell? ⟨gb126, 2, none⟩ = some (.string a0_2) := (blk_cell BK126.out 2).trans rfl
          have hcz57_3 : wc.cell? ⟨gb126, 3, none⟩ = some (.int .i64 a0_3) := (blk_cell BK126.out 3).trans rfl
          have hfz57_0 := blk_frozen BK126.out 0
          have hfz57_1 := blk_frozen BK126.out 1
          have hfz57_2 := blk_frozen BK126.out 2
          have hfz57_3 := blk_frozen BK126.out 3
          go_wp2
          go_ret2
          exact ⟨by first | rfl | (simp [errW_none, errW_some] <;> rfl) | (simp [*, errW_none, errW_some] <;> rfl), by repeat (first | (with_reducible first | exact HB.out | apply below_alloc | apply pw_below_drewN | apply below_drew1 | refine below_set ?_ GE124.out | refine below_set ?_ GE126.out) | exact HB.out)⟩
        ·rw [if_neg c50] at H
         have c50b0 : decide ((a0_2.size : Int) ≤ 255) = false := decide_eq_false c50
         have c50b1 : decide (a0_2.size ≤ 255) = false := decide_eq_false (by omega)
         clear c50
         simp only [Option.some.injEq, Prod.mk.injEq] at H
         obtain ⟨rfl, rfl⟩ := H
         have hnb58 := NB124_126.out
         have hnc58 := NB126_124.out
         have hcz59_0 : wc.cell? ⟨gb124, 0, none⟩ = some (.int .u8 a0_0) := (blk_cell BK124.out 0).trans rfl
         have hcz59_1 : wc.cell? ⟨gb124, 1, none⟩ = some (.int .i64 a0_1) := (blk_cell BK124.out 1).trans rfl
         have hcz59_2 : wc.cell? ⟨gb124, 2, none⟩ = some (.string a0_2) := (blk_cell BK124.out 2).trans rfl
         have hcz59_3 : wc.cell? ⟨gb124, 3, none⟩ = some (.int .i64 a0_3) := (blk_cell BK124.out 3).trans rfl
         have hfz59_0 := blk_frozen BK124.out 0
         have hfz59_1 := blk_frozen BK124.out 1
         have hfz59_2 := blk_frozen BK124.out 2
         have hfz59_3 := blk_frozen BK124.out 3
         have hcz60_0 : wc.cell? ⟨gb126, 0, none⟩ = some (.int .u8 0) := (blk_cell BK126.out 0).trans rfl
         have hcz60_1 : wc.cell? ⟨gb126, 1, none⟩ = some (.int .i64 0) := (blk_cell BK126.out 1).trans rfl
         have hcz60_2 : wc.cell? ⟨gb126, 2, none⟩ = some (.string a0_2) := (blk_cell BK126.out 2).trans rfl
         have hcz60_3 : wc.cell? ⟨gb126, 3, none⟩ = some (.int .i64 a0_3) := (blk_cell BK126.out 3).trans rfl
         have hfz60_0 := blk_frozen BK126.out 0
         have hfz60_1 := blk_frozen BK126.out 1
         have hfz60_2 := blk_frozen BK126.out 2
         have hfz60_3 := blk_frozen BK126.out 3
         go_wp2
         go_ret2
         exact ⟨by first | rfl | (simp [errW_none, errW_some] <;> rfl) | (simp [*, errW_none, errW_some] <;> rfl), by repeat (first | (with_reducible first | exact HB.out | apply below_alloc | apply pw_below_drewN | apply below_drew1 | refine below_set ?_ GE124.out | refine below_set ?_ GE126.out) | exact HB.out)⟩
      ·replace c45 := Bool.eq_false_iff.mpr c45
       subst c45
       have H1 : (some ((⟨#[]⟩ : ByteArray), 81)) = some (r1, r2) := by rw [if_neg (show ¬ (false = true) by decide)] at H; exact H
       clear H
       have H := H1
       clear H1
       simp only [Option.some.injEq, Prod.mk.injEq] at H
       obtain ⟨rfl, rfl⟩ := H
       have hnb61 := NB124_126.out
       have hnc61 := NB126_124.out
       have hcz62_0 : wc.cell? ⟨gb124, 0, none⟩ = some (.int .u8 a0_0) := (blk_cell BK124.out 0).trans rfl
       have hcz62_1 : wc.cell? ⟨gb124, 1, none⟩ = some (.int .i64 a0_1) := (blk_cell BK124.out 1).trans rfl
       have hcz62_2 : wc.cell? ⟨gb124, 2, none⟩ = some (.string a0_2) := (blk_cell BK124.out 2).trans rfl
       have hcz62_3 : wc.cell? ⟨gb124, 3, none⟩ = some (.int .i64 a0_3) := (blk_cell BK124.out 3).trans rfl
       have hfz62_0 := blk_frozen BK124.out 0
       have hfz62_1 := blk_frozen BK124.out 1
       have hfz62_2 := blk_frozen BK124.out 2
       have hfz62_3 := blk_frozen BK124.out 3
       have hcz63_0 : wc.cell? ⟨gb126, 0, none⟩ = some (.int .u8 0) := (blk_cell BK126.out 0).trans rfl
       have hcz63_1 : wc.cell? ⟨gb126, 1, none⟩ = some (.int .i64 0) := (blk_cell BK126.out 1).trans rfl
       have hcz63_2 : wc.cell? ⟨gb126, 2, none⟩ = some (.string a0_2) := (blk_cell BK126.out 2).trans rfl
       have hcz63_3 : wc.cell? ⟨gb126, 3, none⟩ = some (.int .i64 a0_3) := (blk_cell BK126.out 3).trans rfl
       have hfz63_0 := blk_frozen BK126.out 0
       have hfz63_1 := blk_frozen BK126.out 1
       have hfz63_2 := blk_frozen BK126.out 2
       have hfz63_3 := blk_frozen BK126.out 3
       go_wp2
       go_ret2
       exact ⟨by first | rfl | (simp [errW_none, errW_some] <;> rfl) | (simp [*, errW_none, errW_some] <;> rfl), by repeat (first | (with_reducible first | exact HB.out | apply below_alloc | apply pw_below_drewN | apply below_drew1 | refine below_set ?_ GE124.out | refine below_set ?_ GE126.out) | exact HB.out)⟩
     ·rw [if_neg c44] at H
      exact absurd H (by simp)
    ·rw [if_neg c43] at H
     have c43b0 : (a0_0 == 100) = false := beq_eq_false_iff_ne.mpr c43
     have c43b1 : (a0_0 != 100) = true := bne_iff_ne.mpr c43
     by_cases c64 : a0_0 = 120
     ·rw [if_pos c64] at H
      have c64b0 : (a0_0 == 120) = true := beq_iff_eq.mpr c64
      have c64b1 : (a0_0 != 120) = false := bne_eq_false_iff_eq.mpr c64
      clear c64
      by_cases c65 : t125.size + a0_2.size ≤ 9223372036854775807
      ·rw [if_pos c65] at H
       have c65b0 := eq_true c65
       have c65b1 : decide (t125.size + a0_2.size ≤ 9223372036854775807) = true := decide_eq_true c65
       try have c65b2 : (9223372036854775807 < t125.size + a0_2.size) = False := eq_false (Nat.not_lt.2 c65)
       by_cases c66 : x6_2 = true
       ·subst c66
        have H1 : (if a0_2.toList = ([] : List UInt8) then (some ((⟨#[]⟩ : ByteArray), 81)) else (if ((a0_2.size : Int) ≤ 255) then (if (!(0 == 0) || (!(0 == 0) || (!(a0_3 == 0)))) = true then (some ((⟨#[]⟩ : ByteArray), 81)) else (some (t125 ++ a0_2, 0))) else (some ((⟨#[]⟩ : ByteArray), 81)))) = some (r1, r2) := by rw [if_pos rfl] at H; exact H
        clear H
        have H := H1
        clear H1
        by_cases c67 : a0_2.toList = ([] : List UInt8)
        ·rw [if_pos c67] at H
         have c67b0 : (a0_2.toList == ([] : List UInt8)) = true := beq_iff_eq.mpr c67
         have c67b1 : (a0_2.toList != ([] : List UInt8)) = false := bne_eq_false_iff_eq.mpr c67
         clear c67
         simp only [Option.some.injEq, Prod.mk.injEq] at H
         obtain ⟨rfl, rfl⟩ := H
         have hnb68 := NB124_126.out
         have hnc68 := NB126_124.out
         have hcz69_0 : wc.cell? ⟨gb124, 0, none⟩ = some (.int .u8 a0_0) := (blk_cell BK124.out 0).trans rfl
         have hcz69_1 : wc.cell? ⟨gb124, 1, none⟩ = some (.int .i64 a0_1) := (blk_cell BK124.out 1).trans rfl
         have hcz69_2 : wc.cell? ⟨gb124, 2, none⟩ = some (.string a0_2) := (blk_cell BK124.out 2).trans rfl
         have hcz69_3 : wc.cell? ⟨gb124, 3, none⟩ = some (.int .i64 a0_3) := (blk_cell BK124.out 3).trans rfl
         have hfz69_0 := blk_frozen BK124.out 0
         have hfz69_1 := blk_frozen BK124.out 1
         have hfz69_2 := blk_frozen BK124.out 2
         have hfz69_3 := blk_frozen BK124.out 3
         have hcz70_0 : wc.cell? ⟨gb126, 0, none⟩ = some (.int .u8 0) := (blk_cell BK126.out 0).trans rfl
         have hcz70_1 : wc.cell? ⟨gb126, 1, none⟩ = some (.int .i64 0) := (blk_cell BK126.out 1).trans rfl
         have hcz70_2 : wc.cell? ⟨gb126, 2, none⟩ = some (.string a0_2) := (blk_cell BK126.out 2).trans rfl
         have hcz70_3 : wc.cell? ⟨gb126, 3, none⟩ = some (.int .i64 a0_3) := (blk_cell BK126.out 3).trans rfl
         have hfz70_0 := blk_frozen BK126.out 0
         have hfz70_1 := blk_frozen BK126.out 1
         have hfz70_2 := blk_frozen BK126.out 2
         have hfz70_3 := blk_frozen BK126.out 3
         go_wp2
         go_ret2
         exact ⟨by first | rfl | (simp [errW_none, errW_some] <;> rfl) | (simp [*, errW_none, errW_some] <;> rfl), by repeat (first | (with_reducible first | exact HB.out | apply below_alloc | apply pw_below_drewN | apply below_drew1 | refine below_set ?_ GE124.out | refine below_set ?_ GE126.out) | exact HB.out)⟩
        ·rw [if_neg c67] at H
         have c67b0 : (a0_2.toList == ([] : List UInt8)) = false := beq_eq_false_iff_ne.mpr c67
         have c67b1 : (a0_2.toList != ([] : List UInt8)) = true := bne_iff_ne.mpr c67
         by_cases c71 : ((a0_2.size : Int) ≤ 255)
         ·rw [if_pos c71] at H
          have c71b0 : decide ((a0_2.size : Int) ≤ 255) = true := decide_eq_true c71
          have c71b1 : decide (a0_2.size ≤ 255) = true := decide_eq_true (by omega)
          clear c71
          by_cases c72 : (!(0 == 0) || (!(0 == 0) || (!(a0_3 == 0)))) = true
          ·rw [if_pos c72] at H
           have c72b0 : (!(0 == 0) || (!(0 == 0) || (!(a0_3 == 0)))) = true := c72
           have c72z : (!(a0_3 == 0)) = true := by have h_ := c72b0; revert h_; simp
           clear c72
           simp only [Option.some.injEq, Prod.mk.injEq] at H
           obtain ⟨rfl, rfl⟩ := H
           have hnb73 := NB124_126.out
           have hnc73 := NB126_124.out
           have hcz74_0 : wc.cell? ⟨gb124, 0, none⟩ = some (.int .u8 a0_0) := (blk_cell BK124.out 0).trans rfl
           have hcz74_1 : wc.cell? ⟨gb124, 1, none⟩ = some (.int .i64 a0_1) := (blk_cell BK124.out 1).trans rfl
           have hcz74_2 : wc.cell? ⟨gb124, 2, none⟩ = some (.string a0_2) := (blk_cell BK124.out 2).trans rfl
           have hcz74_3 : wc.cell? ⟨gb124, 3, none⟩ = some (.int .i64 a0_3) := (blk_cell BK124.out 3).trans rfl
           have hfz74_0 := blk_frozen BK124.out 0
           have hfz74_1 := blk_frozen BK124.out 1
           have hfz74_2 := blk_frozen BK124.out 2
           have hfz74_3 := blk_frozen BK124.out 3
           have hcz75_0 : wc.cell? ⟨gb126, 0, none⟩ = some (.int .u8 0) := (blk_cell BK126.out 0).trans rfl
           have hcz75_1 : wc.cell? ⟨gb126, 1, none⟩ = some (.int .i64 0) := (blk_cell BK126.out 1).trans rfl
           have hcz75_2 : wc.cell? ⟨gb126, 2, none⟩ = some (.string a0_2) := (blk_cell BK126.out 2).trans rfl
           have hcz75_3 : wc.cell? ⟨gb126, 3, none⟩ = some (.int .i64 a0_3) := (blk_cell BK126.out 3).trans rfl
           have hfz75_0 := blk_frozen BK126.out 0
           have hfz75_1 := blk_frozen BK126.out 1
           have hfz75_2 := blk_frozen BK126.out 2
           have hfz75_3 := blk_frozen BK126.out 3
           go_wp2
           go_ret2
           exact ⟨by first | rfl | (simp [errW_none, errW_some] <;> rfl) | (simp [*, errW_none, errW_some] <;> rfl), by repeat (first | (with_reducible first | exact HB.out | apply below_alloc | apply pw_below_drewN | apply below_drew1 | refine below_set ?_ GE124.out | refine below_set ?_ GE126.out) | exact HB.out)⟩
          ·rw [if_neg c72] at H
           have c72b0 : (!(0 == 0) || (!(0 == 0) || (!(a0_3 == 0)))) = false := by simpa using c72
           have c72z : (!(a0_3 == 0)) = false := by have h_ := c72b0; revert h_; simp
           clear c72
           simp only [Option.some.injEq, Prod.mk.injEq] at H
           obtain ⟨rfl, rfl⟩ := H
           have hnb76 := NB124_126.out
           have hnc76 := NB126_124.out
           have hcz77_0 : wc.cell? ⟨gb124, 0, none⟩ = some (.int .u8 a0_0) := (blk_cell BK124.out 0).trans rfl
           have hcz77_1 : wc.cell? ⟨gb124, 1, none⟩ = some (.int .i64 a0_1) := (blk_cell BK124.out 1).trans rfl
           have hcz77_2 : wc.cell? ⟨gb124, 2, none⟩ = some (.string a0_2) := (blk_cell BK124.out 2).trans rfl
           have hcz77_3 : wc.cell? ⟨gb124, 3, none⟩ = some (.int .i64 a0_3) := (blk_cell BK124.out 3).trans rfl
           have hfz77_0 := blk_frozen BK124.out 0
           have hfz77_1 := blk_frozen BK124.out 1
           have hfz77_2 := blk_frozen BK124.out 2
           have hfz77_3 := blk_frozen BK124.out 3
           have hcz78_0 : wc.cell? ⟨gb126, 0, none⟩ = some (.int .u8 0) := (blk_cell BK126.out 0).trans rfl
           have hcz78_1 : wc.cell? ⟨gb126, 1, none⟩ = some (.int .i64 0) := (blk_cell BK126.out 1).trans rfl
           have hcz78_2 : wc.cell? ⟨gb126, 2, none⟩ = some (.string a0_2) := (blk_cell BK126.out 2).trans rfl
           have hcz78_3 : wc.cell? ⟨gb126, 3, none⟩ = some (.int .i64 a0_3) := (blk_cell BK126.out 3).trans rfl
           have hfz78_0 := blk_frozen BK126.out 0
           have hfz78_1 := blk_frozen BK126.out 1
           have hfz78_2 := blk_frozen BK126.out 2
           have hfz78_3 := blk_frozen BK126.out 3
           go_wp2
           go_ret2
           exact ⟨by first | rfl | (simp [errW_none, errW_some] <;> rfl) | (simp [*, errW_none, errW_some] <;> rfl), by repeat (first | (with_reducible first | exact HB.out | apply below_alloc | apply pw_below_drewN | apply below_drew1 | refine below_set ?_ GE124.out | refine below_set ?_ GE126.out) | exact HB.out)⟩
         ·rw [if_neg c71] at H
          have c71b0 : decide ((a0_2.size : Int) ≤ 255) = false := decide_eq_false c71
          have c71b1 : decide (a0_2.size ≤ 255) = false := decide_eq_false (by omega)
          clear c71
          simp only [Option.some.injEq, Prod.mk.injEq] at H
          obtain ⟨rfl, rfl⟩ := H
          have hnb79 := NB124_126.out
          have hnc79 := NB126_124.out
          have hcz80_0 : wc.cell? ⟨gb124, 0, none⟩ = some (.int .u8 a0_0) := (blk_cell BK124.out 0).trans rfl
          have hcz80_1 : wc.cell? ⟨gb124, 1, none⟩ = some (.int .i64 a0_1) := (blk_cell BK124.out 1).trans rfl
          have hcz80_2 : wc.cell? ⟨gb124, 2, none⟩ = some (.string a0_2) := (blk_cell BK124.out 2).trans rfl
          have hcz80_3 : wc.cell? ⟨gb124, 3, none⟩ = some (.int .i64 a0_3) := (blk_cell BK124.out 3).trans rfl
          have hfz80_0 := blk_frozen BK124.out 0
          have hfz80_1 := blk_frozen BK124.out 1
          have hfz80_2 := blk_frozen BK124.out 2
          have hfz80_3 := blk_frozen BK124.out 3
          have hcz81_0 : wc.cell? ⟨gb126, 0, none⟩ = some (.int .u8 0) := (blk_cell BK126.out 0).trans rfl
          have hcz81_1 : wc.cell? ⟨gb126, 1, none⟩ = some (.int .i64 0) := (blk_cell BK126.out 1).trans rfl
          have hcz81_2 : wc.cell? ⟨gb126, 2, none⟩ = some (.string a0_2) := (blk_cell BK126.out 2).trans rfl
          have hcz81_3 : wc.cell? ⟨gb126, 3, none⟩ = some (.int .i64 a0_3) := (blk_cell BK126.out 3).trans rfl
          have hfz81_0 := blk_frozen BK126.out 0
          have hfz81_1 := blk_frozen BK126.out 1
          have hfz81_2 := blk_frozen BK126.out 2
          have hfz81_3 := blk_frozen BK126.out 3
          go_wp2
          go_ret2
          exact ⟨by first | rfl | (simp [errW_none, errW_some] <;> rfl) | (simp [*, errW_none, errW_some] <;> rfl), by repeat (first | (with_reducible first | exact HB.out | apply below_alloc | apply pw_below_drewN | apply below_drew1 | refine below_set ?_ GE124.out | refine below_set ?_ GE126.out) | exact HB.out)⟩
       ·replace c66 := Bool.eq_false_iff.mpr c66
        subst c66
        have H1 : (some ((⟨#[]⟩ : ByteArray), 81)) = some (r1, r2) := by rw [if_neg (show ¬ (false = true) by decide)] at H; exact H
        clear H
        have H := H1
        clear H1
        simp only [Option.some.injEq, Prod.mk.injEq] at H
        obtain ⟨rfl, rfl⟩ := H
        have hnb82 := NB124_126.out
        have hnc82 := NB126_124.out
        have hcz83_0 : wc.cell? ⟨gb124, 0, none⟩ = some (.int .u8 a0_0) := (blk_cell BK124.out 0).trans rfl
        have hcz83_1 : wc.cell? ⟨gb124, 1, none⟩ = some (.int .i64 a0_1) := (blk_cell BK124.out 1).trans rfl
        have hcz83_2 : wc.cell? ⟨gb124, 2, none⟩ = some (.string a0_2) := (blk_cell BK124.out 2).trans rfl
        have hcz83_3 : wc.cell? ⟨gb124, 3, none⟩ = some (.int .i64 a0_3) := (blk_cell BK124.out 3).trans rfl
        have hfz83_0 := blk_frozen BK124.out 0
        have hfz83_1 := blk_frozen BK124.out 1
        have hfz83_2 := blk_frozen BK124.out 2
        have hfz83_3 := blk_frozen BK124.out 3
        have hcz84_0 : wc.cell? ⟨gb126, 0, none⟩ = some (.int .u8 0) := (blk_cell BK126.out 0).trans rfl
        have hcz84_1 : wc.cell? ⟨gb126, 1, none⟩ = some (.int .i64 0) := (blk_cell BK126.out 1).trans rfl
        have hcz84_2 : wc.cell? ⟨gb126, 2, none⟩ = some (.string a0_2) := (blk_cell BK126.out 2).trans rfl
        have hcz84_3 : wc.cell? ⟨gb126, 3, none⟩ = some (.int .i64 a0_3) := (blk_cell BK126.out 3).trans rfl
        have hfz84_0 := blk_frozen BK126.out 0
        have hfz84_1 := blk_frozen BK126.out 1
        have hfz84_2 := blk_frozen BK126.out 2
        have hfz84_3 := blk_frozen BK126.out 3
        go_wp2
        go_ret2
        exact ⟨by first | rfl | (simp [errW_none, errW_some] <;> rfl) | (simp [*, errW_none, errW_some] <;> rfl), by repeat (first | (with_reducible first | exact HB.out | apply below_alloc | apply pw_below_drewN | apply below_drew1 | refine below_set ?_ GE124.out | refine below_set ?_ GE126.out) | exact HB.out)⟩
      ·rw [if_neg c65] at H
       exact absurd H (by simp)
     ·rw [if_neg c64] at H
      have c64b0 : (a0_0 == 120) = false := beq_eq_false_iff_ne.mpr c64
      have c64b1 : (a0_0 != 120) = true := bne_iff_ne.mpr c64
      by_cases c85 : a0_0 = 112
      ·rw [if_pos c85] at H
       have c85b0 : (a0_0 == 112) = true := beq_iff_eq.mpr c85
       have c85b1 : (a0_0 != 112) = false := bne_eq_false_iff_eq.mpr c85
       clear c85
       replace H := Option.bind_eq_some_iff.mp H
       obtain ⟨t130, A860, H⟩ := H
       replace H : (if t125.size + t130.size ≤ 9223372036854775807 then (if x6_2 = true then (if a0_3 ≥ 0 then (if a0_3 < 72057594037927936 then (if (!(0 == 0) || (!(0 == 0) || (!(a0_2.toList == ([] : List UInt8))))) = true then (some ((⟨#[]⟩ : ByteArray), 81)) else (some (t125 ++ t130, 0))) else (some ((⟨#[]⟩ : ByteArray), 81))) else (some ((⟨#[]⟩ : ByteArray), 81))) else (some ((⟨#[]⟩ : ByteArray), 81))) else (none)) = some (r1, r2) := H
       have A86 := Aside0.mk A860
       clear A860
       by_cases c87 : t125.size + t130.size ≤ 9223372036854775807
       ·rw [if_pos c87] at H
        have c87b0 := eq_true c87
        have c87b1 : decide (t125.size + t130.size ≤ 9223372036854775807) = true := decide_eq_true c87
        try have c87b2 : (9223372036854775807 < t125.size + t130.size) = False := eq_false (Nat.not_lt.2 c87)
        by_cases c88 : x6_2 = true
        ·subst c88
         have H1 : (if a0_3 ≥ 0 then (if a0_3 < 72057594037927936 then (if (!(0 == 0) || (!(0 == 0) || (!(a0_2.toList == ([] : List UInt8))))) = true then (some ((⟨#[]⟩ : ByteArray), 81)) else (some (t125 ++ t130, 0))) else (some ((⟨#[]⟩ : ByteArray), 81))) else (some ((⟨#[]⟩ : ByteArray), 81))) = some (r1, r2) := by rw [if_pos rfl] at H; exact H
         clear H
         have H := H1
         clear H1
         by_cases c89 : a0_3 ≥ 0
         ·rw [if_pos c89] at H
          have c89b0 : decide (0 ≤ a0_3) = true := decide_eq_true c89
          clear c89
          by_cases c90 : a0_3 < 72057594037927936
          ·rw [if_pos c90] at H
           have c90b0 : decide (a0_3 < 72057594037927936) = true := decide_eq_true c90
           clear c90
           by_cases c91 : (!(0 == 0) || (!(0 == 0) || (!(a0_2.toList == ([] : List UInt8))))) = true
           ·rw [if_pos c91] at H
            have c91b0 : (!(0 == 0) || (!(0 == 0) || (!(a0_2.toList == ([] : List UInt8))))) = true := c91
            have c91z : (!a0_2.toList.isEmpty) = true := by have h_ := c91b0; revert h_; simp
            clear c91
            simp only [Option.some.injEq, Prod.mk.injEq] at H
            obtain ⟨rfl, rfl⟩ := H
            have hnb92 := NB124_126.out
            have hnc92 := NB126_124.out
            have hcz93_0 : wc.cell? ⟨gb124, 0, none⟩ = some (.int .u8 a0_0) := (blk_cell BK124.out 0).trans rfl
            have hcz93_1 : wc.cell? ⟨gb124, 1, none⟩ = some (.int .i64 a0_1) := (blk_cell BK124.out 1).trans rfl
            have hcz93_2 : wc.cell? ⟨gb124, 2, none⟩ = some (.string a0_2) := (blk_cell BK124.out 2).trans rfl
            have hcz93_3 : wc.cell? ⟨gb124, 3, none⟩ = some (.int .i64 a0_3) := (blk_cell BK124.out 3).trans rfl
            have hfz93_0 := blk_frozen BK124.out 0
            have hfz93_1 := blk_frozen BK124.out 1
            have hfz93_2 := blk_frozen BK124.out 2
            have hfz93_3 := blk_frozen BK124.out 3
            go_wp2_with (first | ((with_reducible refine gate_callee (f := 83) rfl ?_); refine goesL_ (some 63) rfl rfl Try.func83 (by kernel_rfl) rfl #[.int .u64 (IntKind.u64.wrap (a0_3))] rfl (by (try simp only [List.map_toArray, List.map_cons, List.map_nil]); first | done | rfl | (simp only [List.length_drop, List.length_take]; rfl)) ?_; (with_reducible refine (pack_Fixed.calls (IntKind.u64.wrap (a0_3)) t130 _ A86.out).mono ?_); rintro e w94 ⟨rfl, hb⟩; refine ⟨_, rfl, ?_⟩; have n0_ := Aside0.mk (blk_below (g := gb124) (o := .cells #[.int .u8 a0_0, .int .i64 a0_1, .string a0_2, .int .i64 a0_3] 90 (0, 0)) (by (with_reducible repeat (first | refine blk_drewN ?_ _ | refine blk_drew ?_ | refine blk_alloc ?_ _)); exact BK124.out) hb); have n1_ := Aside0.mk (blk_below (g := gb126) (o := .cells #[.int .u8 0, .int .i64 0, .string a0_2, .int .i64 a0_3] 90 (0, 0)) (by (with_reducible repeat (first | refine blk_drewN ?_ _ | refine blk_drew ?_ | refine blk_alloc ?_ _)); exact BK126.out) hb); have n2_ := Aside0.mk (below_step (by repeat (first | (with_reducible first | exact HB.out | apply below_alloc | apply pw_below_drewN | apply below_drew1 | refine below_set ?_ GE124.out | refine below_set ?_ GE126.out) | exact HB.out)) hb); clear BK124; clear BK126; clear HB; have BK124 := n0_; have BK126 := n1_; have HB := n2_; clear n0_ n1_ n2_; (try clear hb); (try clear hb2); (try clear hk); (try clear hi); have hcz95_0 : w94.cell? ⟨gb124, 0, none⟩ = some (.int .u8 a0_0) := (blk_cell BK124.out 0).trans rfl; have hcz95_1 : w94.cell? ⟨gb124, 1, none⟩ = some (.int .i64 a0_1) := (blk_cell BK124.out 1).trans rfl; have hcz95_2 : w94.cell? ⟨gb124, 2, none⟩ = some (.string a0_2) := (blk_cell BK124.out 2).trans rfl; have hcz95_3 : w94.cell? ⟨gb124, 3, none⟩ = some (.int .i64 a0_3) := (blk_cell BK124.out 3).trans rfl; have hfz95_0 := blk_frozen BK124.out 0; have hfz95_1 := blk_frozen BK124.out 1; have hfz95_2 := blk_frozen BK124.out 2; have hfz95_3 := blk_frozen BK124.out 3; have hcz96_0 : w94.cell? ⟨gb126, 0, none⟩ = some (.int .u8 0) := (blk_cell BK126.out 0).trans rfl; have hcz96_1 : w94.cell? ⟨gb126, 1, none⟩ = some (.int .i64 0) := (blk_cell BK126.out 1).trans rfl; have hcz96_2 : w94.cell? ⟨gb126, 2, none⟩ = some (.string a0_2) := (blk_cell BK126.out 2).trans rfl; have hcz96_3 : w94.cell? ⟨gb126, 3, none⟩ = some (.int .i64 a0_3) := (blk_cell BK126.out 3).trans rfl; have hfz96_0 := blk_frozen BK126.out 0; have hfz96_1 := blk_frozen BK126.out 1; have hfz96_2 := blk_frozen BK126.out 2; have hfz96_3 := blk_frozen BK126.out 3))
            go_ret2
            exact ⟨by first | rfl | (simp [errW_none, errW_some] <;> rfl) | (simp [*, errW_none, errW_some] <;> rfl), by repeat (first | (with_reducible first | exact HB.out | apply below_alloc | apply pw_below_drewN | apply below_drew1 | refine below_set ?_ GE124.out | refine below_set ?_ GE126.out) | exact HB.out)⟩
           ·rw [if_neg c91] at H
            have c91b0 : (!(0 == 0) || (!(0 == 0) || (!(a0_2.toList == ([] : List UInt8))))) = false := by simpa using c91
            have c91z : (!a0_2.toList.isEmpty) = false := by have h_ := c91b0; revert h_; simp
            clear c91
            simp only [Option.some.injEq, Prod.mk.injEq] at H
            obtain ⟨rfl, rfl⟩ := H
            have hnb97 := NB124_126.out
            have hnc97 := NB126_124.out
            have hcz98_0 : wc.cell? ⟨gb124, 0, none⟩ = some (.int .u8 a0_0) := (blk_cell BK124.out 0).trans rfl
            have hcz98_1 : wc.cell? ⟨gb124, 1, none⟩ = some (.int .i64 a0_1) := (blk_cell BK124.out 1).trans rfl
            have hcz98_2 : wc.cell? ⟨gb124, 2, none⟩ = some (.string a0_2) := (blk_cell BK124.out 2).trans rfl
            have hcz98_3 : wc.cell? ⟨gb124, 3, none⟩ = some (.int .i64 a0_3) := (blk_cell BK124.out 3).trans rfl
            have hfz98_0 := blk_frozen BK124.out 0
            have hfz98_1 := blk_frozen BK124.out 1
            have hfz98_2 := blk_frozen BK124.out 2
            have hfz98_3 := blk_frozen BK124.out 3
            go_wp2_with (first | ((with_reducible refine gate_callee (f := 83) rfl ?_); refine goesL_ (some 63) rfl rfl Try.func83 (by kernel_rfl) rfl #[.int .u64 (IntKind.u64.wrap (a0_3))] rfl (by (try simp only [List.map_toArray, List.map_cons, List.map_nil]); first | done | rfl | (simp only [List.length_drop, List.length_take]; rfl)) ?_; (with_reducible refine (pack_Fixed.calls (IntKind.u64.wrap (a0_3)) t130 _ A86.out).mono ?_); rintro e w99 ⟨rfl, hb⟩; refine ⟨_, rfl, ?_⟩; have n0_ := Aside0.mk (blk_below (g := gb124) (o := .cells #[.int .u8 a0_0, .int .i64 a0_1, .string a0_2, .int .i64 a0_3] 90 (0, 0)) (by (with_reducible repeat (first | refine blk_drewN ?_ _ | refine blk_drew ?_ | refine blk_alloc ?_ _)); exact BK124.out) hb); have n1_ := Aside0.mk (blk_below (g := gb126) (o := .cells #[.int .u8 0, .int .i64 0, .string a0_2, .int .i64 a0_3] 90 (0, 0)) (by (with_reducible repeat (first | refine blk_drewN ?_ _ | refine blk_drew ?_ | refine blk_alloc ?_ _)); exact BK126.out) hb); have n2_ := Aside0.mk (below_step (by repeat (first | (with_reducible first | exact HB.out | apply below_alloc | apply pw_below_drewN | apply below_drew1 | refine below_set ?_ GE124.out | refine below_set ?_ GE126.out) | exact HB.out)) hb); clear BK124; clear BK126; clear HB; have BK124 := n0_; have BK126 := n1_; have HB := n2_; clear n0_ n1_ n2_; (try clear hb); (try clear hb2); (try clear hk); (try clear hi); have hcz100_0 : w99.cell? ⟨gb124, 0, none⟩ = some (.int .u8 a0_0) := (blk_cell BK124.out 0).trans rfl; have hcz100_1 : w99.cell? ⟨gb124, 1, none⟩ = some (.int .i64 a0_1) := (blk_cell BK124.out 1).trans rfl; have hcz100_2 : w99.cell? ⟨gb124, 2, none⟩ = some (.string a0_2) := (blk_cell BK124.out 2).trans rfl; have hcz100_3 : w99.cell? ⟨gb124, 3, none⟩ = some (.int .i64 a0_3) := (blk_cell BK124.out 3).trans rfl; have hfz100_0 := blk_frozen BK124.out 0; have hfz100_1 := blk_frozen BK124.out 1; have hfz100_2 := blk_frozen BK124.out 2; have hfz100_3 := blk_frozen BK124.out 3; have hcz101_0 : w99.cell? ⟨gb126, 0, none⟩ = some (.int .u8 0) := (blk_cell BK126.out 0).trans rfl; have hcz101_1 : w99.cell? ⟨gb126, 1, none⟩ = some (.int .i64 0) := (blk_cell BK126.out 1).trans rfl; have hcz101_2 : w99.cell? ⟨gb126, 2, none⟩ = some (.string a0_2) := (blk_cell BK126.out 2).trans rfl; have hcz101_3 : w99.cell? ⟨gb126, 3, none⟩ = some (.int .i64 a0_3) := (blk_cell BK126.out 3).trans rfl; have hfz101_0 := blk_frozen BK126.out 0; have hfz101_1 := blk_frozen BK126.out 1; have hfz101_2 := blk_frozen BK126.out 2; have hfz101_3 := blk_frozen BK126.out 3))
            go_ret2
            exact ⟨by first | rfl | (simp [errW_none, errW_some] <;> rfl) | (simp [*, errW_none, errW_some] <;> rfl), by repeat (first | (with_reducible first | exact HB.out | apply below_alloc | apply pw_below_drewN | apply below_drew1 | refine below_set ?_ GE124.out | refine below_set ?_ GE126.out) | exact HB.out)⟩
          ·rw [if_neg c90] at H
           have c90b0 : decide (a0_3 < 72057594037927936) = false := decide_eq_false c90
           clear c90
           simp only [Option.some.injEq, Prod.mk.injEq] at H
           obtain ⟨rfl, rfl⟩ := H
           have hnb102 := NB124_126.out
           have hnc102 := NB126_124.out
           have hcz103_0 : wc.cell? ⟨gb124, 0, none⟩ = some (.int .u8 a0_0) := (blk_cell BK124.out 0).trans rfl
           have hcz103_1 : wc.cell? ⟨gb124, 1, none⟩ = some (.int .i64 a0_1) := (blk_cell BK124.out 1).trans rfl
           have hcz103_2 : wc.cell? ⟨gb124, 2, none⟩ = some (.string a0_2) := (blk_cell BK124.out 2).trans rfl
           have hcz103_3 : wc.cell? ⟨gb124, 3, none⟩ = some (.int .i64 a0_3) := (blk_cell BK124.out 3).trans rfl
           have hfz103_0 := blk_frozen BK124.out 0
           have hfz103_1 := blk_frozen BK124.out 1
           have hfz103_2 := blk_frozen BK124.out 2
           have hfz103_3 := blk_frozen BK124.out 3
           go_wp2_with (first | ((with_reducible refine gate_callee (f := 83) rfl ?_); refine goesL_ (some 63) rfl rfl Try.func83 (by kernel_rfl) rfl #[.int .u64 (IntKind.u64.wrap (a0_3))] rfl (by (try simp only [List.map_toArray, List.map_cons, List.map_nil]); first | done | rfl | (simp only [List.length_drop, List.length_take]; rfl)) ?_; (with_reducible refine (pack_Fixed.calls (IntKind.u64.wrap (a0_3)) t130 _ A86.out).mono ?_); rintro e w104 ⟨rfl, hb⟩; refine ⟨_, rfl, ?_⟩; have n0_ := Aside0.mk (blk_below (g := gb124) (o := .cells #[.int .u8 a0_0, .int .i64 a0_1, .string a0_2, .int .i64 a0_3] 90 (0, 0)) (by (with_reducible repeat (first | refine blk_drewN ?_ _ | refine blk_drew ?_ | refine blk_alloc ?_ _)); exact BK124.out) hb); have n1_ := Aside0.mk (blk_below (g := gb126) (o := .cells #[.int .u8 0, .int .i64 0, .string a0_2, .int .i64 a0_3] 90 (0, 0)) (by (with_reducible repeat (first | refine blk_drewN ?_ _ | refine blk_drew ?_ | refine blk_alloc ?_ _)); exact BK126.out) hb); have n2_ := Aside0.mk (below_step (by repeat (first | (with_reducible first | exact HB.out | apply below_alloc | apply pw_below_drewN | apply below_drew1 | refine below_set ?_ GE124.out | refine below_set ?_ GE126.out) | exact HB.out)) hb); clear BK124; clear BK126; clear HB; have BK124 := n0_; have BK126 := n1_; have HB := n2_; clear n0_ n1_ n2_; (try clear hb); (try clear hb2); (try clear hk); (try clear hi); have hcz105_0 : w104.cell? ⟨gb124, 0, none⟩ = some (.int .u8 a0_0) := (blk_cell BK124.out 0).trans rfl; have hcz105_1 : w104.cell? ⟨gb124, 1, none⟩ = some (.int .i64 a0_1) := (blk_cell BK124.out 1).trans rfl; have hcz105_2 : w104.cell? ⟨gb124, 2, none⟩ = some (.string a0_2) := (blk_cell BK124.out 2).trans rfl; have hcz105_3 : w104.cell? ⟨gb124, 3, none⟩ = some (.int .i64 a0_3) := (blk_cell BK124.out 3).trans rfl; have hfz105_0 := blk_frozen BK124.out 0; have hfz105_1 := blk_frozen BK124.out 1; have hfz105_2 := blk_frozen BK124.out 2; have hfz105_3 := blk_frozen BK124.out 3; have hcz106_0 : w104.cell? ⟨gb126, 0, none⟩ = some (.int .u8 0) := (blk_cell BK126.out 0).trans rfl; have hcz106_1 : w104.cell? ⟨gb126, 1, none⟩ = some (.int .i64 0) := (blk_cell BK126.out 1).trans rfl; have hcz106_2 : w104.cell? ⟨gb126, 2, none⟩ = some (.string a0_2) := (blk_cell BK126.out 2).trans rfl; have hcz106_3 : w104.cell? ⟨gb126, 3, none⟩ = some (.int .i64 a0_3) := (blk_cell BK126.out 3).trans rfl; have hfz106_0 := blk_frozen BK126.out 0; have hfz106_1 := blk_frozen BK126.out 1; have hfz106_2 := blk_frozen BK126.out 2; have hfz106_3 := blk_frozen BK126.out 3))
           go_ret2
           exact ⟨by first | rfl | (simp [errW_none, errW_some] <;> rfl) | (simp [*, errW_none, errW_some] <;> rfl), by repeat (first | (with_reducible first | exact HB.out | apply below_alloc | apply pw_below_drewN | apply below_drew1 | refine below_set ?_ GE124.out | refine below_set ?_ GE126.out) | exact HB.out)⟩
         ·rw [if_neg c89] at H
          have c89b0 : decide (0 ≤ a0_3) = false := decide_eq_false c89
          clear c89
          simp only [Option.some.injEq, Prod.mk.injEq] at H
          obtain ⟨rfl, rfl⟩ := H
          have hnb107 := NB124_126.out
          have hnc107 := NB126_124.out
          have hcz108_0 : wc.cell? ⟨gb124, 0, none⟩ = some (.int .u8 a0_0) := (blk_cell BK124.out 0).trans rfl
          have hcz108_1 : wc.cell? ⟨gb124, 1, none⟩ = some (.int .i64 a0_1) := (blk_cell BK124.out 1).trans rfl
          have hcz108_2 : wc.cell? ⟨gb124, 2, none⟩ = some (.string a0_2) := (blk_cell BK124.out 2).trans rfl
          have hcz108_3 : wc.cell? ⟨gb124, 3, none⟩ = some (.int .i64 a0_3) := (blk_cell BK124.out 3).trans rfl
          have hfz108_0 := blk_frozen BK124.out 0
          have hfz108_1 := blk_frozen BK124.out 1
          have hfz108_2 := blk_frozen BK124.out 2
          have hfz108_3 := blk_frozen BK124.out 3
          go_wp2_with (first | ((with_reducible refine gate_callee (f := 83) rfl ?_); refine goesL_ (some 63) rfl rfl Try.func83 (by kernel_rfl) rfl #[.int .u64 (IntKind.u64.wrap (a0_3))] rfl (by (try simp only [List.map_toArray, List.map_cons, List.map_nil]); first | done | rfl | (simp only [List.length_drop, List.length_take]; rfl)) ?_; (with_reducible refine (pack_Fixed.calls (IntKind.u64.wrap (a0_3)) t130 _ A86.out).mono ?_); rintro e w109 ⟨rfl, hb⟩; refine ⟨_, rfl, ?_⟩; have n0_ := Aside0.mk (blk_below (g := gb124) (o := .cells #[.int .u8 a0_0, .int .i64 a0_1, .string a0_2, .int .i64 a0_3] 90 (0, 0)) (by (with_reducible repeat (first | refine blk_drewN ?_ _ | refine blk_drew ?_ | refine blk_alloc ?_ _)); exact BK124.out) hb); have n1_ := Aside0.mk (blk_below (g := gb126) (o := .cells #[.int .u8 0, .int .i64 0, .string a0_2, .int .i64 a0_3] 90 (0, 0)) (by (with_reducible repeat (first | refine blk_drewN ?_ _ | refine blk_drew ?_ | refine blk_alloc ?_ _)); exact BK126.out) hb); have n2_ := Aside0.mk (below_step (by repeat (first | (with_reducible first | exact HB.out | apply below_alloc | apply pw_below_drewN | apply below_drew1 | refine below_set ?_ GE124.out | refine below_set ?_ GE126.out) | exact HB.out)) hb); clear BK124; clear BK126; clear HB; have BK124 := n0_; have BK126 := n1_; have HB := n2_; clear n0_ n1_ n2_; (try clear hb); (try clear hb2); (try clear hk); (try clear hi); have hcz110_0 : w109.cell? ⟨gb124, 0, none⟩ = some (.int .u8 a0_0) := (blk_cell BK124.out 0).trans rfl; have hcz110_1 : w109.cell? ⟨gb124, 1, none⟩ = some (.int .i64 a0_1) := (blk_cell BK124.out 1).trans rfl; have hcz110_2 : w109.cell? ⟨gb124, 2, none⟩ = some (.string a0_2) := (blk_cell BK124.out 2).trans rfl; have hcz110_3 : w109.cell? ⟨gb124, 3, none⟩ = some (.int .i64 a0_3) := (blk_cell BK124.out 3).trans rfl; have hfz110_0 := blk_frozen BK124.out 0; have hfz110_1 := blk_frozen BK124.out 1; have hfz110_2 := blk_frozen BK124.out 2; have hfz110_3 := blk_frozen BK124.out 3; have hcz111_0 : w109.cell? ⟨gb126, 0, none⟩ = some (.int .u8 0) := (blk_cell BK126.out 0).trans rfl; have hcz111_1 : w109.cell? ⟨gb126, 1, none⟩ = some (.int .i64 0) := (blk_cell BK126.out 1).trans rfl; have hcz111_2 : w109.cell? ⟨gb126, 2, none⟩ = some (.string a0_2) := (blk_cell BK126.out 2).trans rfl; have hcz111_3 : w109.cell? ⟨gb126, 3, none⟩ = some (.int .i64 a0_3) := (blk_cell BK126.out 3).trans rfl; have hfz111_0 := blk_frozen BK126.out 0; have hfz111_1 := blk_frozen BK126.out 1; have hfz111_2 := blk_frozen BK126.out 2; have hfz111_3 := blk_frozen BK126.out 3))
          go_ret2
          exact ⟨by first | rfl | (simp [errW_none, errW_some] <;> rfl) | (simp [*, errW_none, errW_some] <;> rfl), by repeat (first | (with_reducible first | exact HB.out | apply below_alloc | apply pw_below_drewN | apply below_drew1 | refine below_set ?_ GE124.out | refine below_set ?_ GE126.out) | exact HB.out)⟩
        ·replace c88 := Bool.eq_false_iff.mpr c88
         subst c88
         have H1 : (some ((⟨#[]⟩ : ByteArray), 81)) = some (r1, r2) := by rw [if_neg (show ¬ (false = true) by decide)] at H; exact H
         clear H
         have H := H1
         clear H1
         simp only [Option.some.injEq, Prod.mk.injEq] at H
         obtain ⟨rfl, rfl⟩ := H
         have hnb112 := NB124_126.out
         have hnc112 := NB126_124.out
         have hcz113_0 : wc.cell? ⟨gb124, 0, none⟩ = some (.int .u8 a0_0) := (blk_cell BK124.out 0).trans rfl
         have hcz113_1 : wc.cell? ⟨gb124, 1, none⟩ = some (.int .i64 a0_1) := (blk_cell BK124.out 1).trans rfl
         have hcz113_2 : wc.cell? ⟨gb124, 2, none⟩ = some (.string a0_2) := (blk_cell BK124.out 2).trans rfl
         have hcz113_3 : wc.cell? ⟨gb124, 3, none⟩ = some (.int .i64 a0_3) := (blk_cell BK124.out 3).trans rfl
         have hfz113_0 := blk_frozen BK124.out 0
         have hfz113_1 := blk_frozen BK124.out 1
         have hfz113_2 := blk_frozen BK124.out 2
         have hfz113_3 := blk_frozen BK124.out 3
         go_wp2_with (first | ((with_reducible refine gate_callee (f := 83) rfl ?_); refine goesL_ (some 63) rfl rfl Try.func83 (by kernel_rfl) rfl #[.int .u64 (IntKind.u64.wrap (a0_3))] rfl (by (try simp only [List.map_toArray, List.map_cons, List.map_nil]); first | done | rfl | (simp only [List.length_drop, List.length_take]; rfl)) ?_; (with_reducible refine (pack_Fixed.calls (IntKind.u64.wrap (a0_3)) t130 _ A86.out).mono ?_); rintro e w114 ⟨rfl, hb⟩; refine ⟨_, rfl, ?_⟩; have n0_ := Aside0.mk (blk_below (g := gb124) (o := .cells #[.int .u8 a0_0, .int .i64 a0_1, .string a0_2, .int .i64 a0_3] 90 (0, 0)) (by (with_reducible repeat (first | refine blk_drewN ?_ _ | refine blk_drew ?_ | refine blk_alloc ?_ _)); exact BK124.out) hb); have n1_ := Aside0.mk (blk_below (g := gb126) (o := .cells #[.int .u8 0, .int .i64 0, .string a0_2, .int .i64 a0_3] 90 (0, 0)) (by (with_reducible repeat (first | refine blk_drewN ?_ _ | refine blk_drew ?_ | refine blk_alloc ?_ _)); exact BK126.out) hb); have n2_ := Aside0.mk (below_step (by repeat (first | (with_reducible first | exact HB.out | apply below_alloc | apply pw_below_drewN | apply below_drew1 | refine below_set ?_ GE124.out | refine below_set ?_ GE126.out) | exact HB.out)) hb); clear BK124; clear BK126; clear HB; have BK124 := n0_; have BK126 := n1_; have HB := n2_; clear n0_ n1_ n2_; (try clear hb); (try clear hb2); (try clear hk); (try clear hi); have hcz115_0 : w114.cell? ⟨gb126, 0, none⟩ = some (.int .u8 0) := (blk_cell BK126.out 0).trans rfl; have hcz115_1 : w114.cell? ⟨gb126, 1, none⟩ = some (.int .i64 0) := (blk_cell BK126.out 1).trans rfl; have hcz115_2 : w114.cell? ⟨gb126, 2, none⟩ = some (.string a0_2) := (blk_cell BK126.out 2).trans rfl; have hcz115_3 : w114.cell? ⟨gb126, 3, none⟩ = some (.int .i64 a0_3) := (blk_cell BK126.out 3).trans rfl; have hfz115_0 := blk_frozen BK126.out 0; have hfz115_1 := blk_frozen BK126.out 1; have hfz115_2 := blk_frozen BK126.out 2; have hfz115_3 := blk_frozen BK126.out 3))
         go_ret2
         exact ⟨by first | rfl | (simp [errW_none, errW_some] <;> rfl) | (simp [*, errW_none, errW_some] <;> rfl), by repeat (first | (with_reducible first | exact HB.out | apply below_alloc | apply pw_below_drewN | apply below_drew1 | refine below_set ?_ GE124.out | refine below_set ?_ GE126.out) | exact HB.out)⟩
       ·rw [if_neg c87] at H
        exact absurd H (by simp)
      ·rw [if_neg c85] at H
       have c85b0 : (a0_0 == 112) = false := beq_eq_false_iff_ne.mpr c85
       have c85b1 : (a0_0 != 112) = true := bne_iff_ne.mpr c85
       by_cases c116 : a0_0 = 105
       ·rw [if_pos c116] at H
        have c116b0 : (a0_0 == 105) = true := beq_iff_eq.mpr c116
        have c116b1 : (a0_0 != 105) = false := bne_eq_false_iff_eq.mpr c116
        clear c116
        by_cases c117 : x6_2 = true
        ·subst c117
         have H1 : (if (!(0 == 0) || (!(0 == 0) || (!(a0_2.toList == ([] : List UInt8)) || (!(a0_3 == 0))))) = true then (some ((⟨#[]⟩ : ByteArray), 81)) else (some (t125, 0))) = some (r1, r2) := by rw [if_pos rfl] at H; exact H
         clear H
         have H := H1
         clear H1
         by_cases c118 : (!(0 == 0) || (!(0 == 0) || (!(a0_2.toList == ([] : List UInt8)) || (!(a0_3 == 0))))) = true
         ·rw [if_pos c118] at H
          have c118b0 : (!(0 == 0) || (!(0 == 0) || (!(a0_2.toList == ([] : List UInt8)) || (!(a0_3 == 0))))) = true := c118
          have c118z : (!a0_2.toList.isEmpty || (!(a0_3 == 0))) = true := by have h_ := c118b0; revert h_; simp
          clear c118
          simp only [Option.some.injEq, Prod.mk.injEq] at H
          obtain ⟨rfl, rfl⟩ := H
          have hnb119 := NB124_126.out
          have hnc119 := NB126_124.out
          have hcz120_0 : wc.cell? ⟨gb124, 0, none⟩ = some (.int .u8 a0_0) := (blk_cell BK124.out 0).trans rfl
          have hcz120_1 : wc.cell? ⟨gb124, 1, none⟩ = some (.int .i64 a0_1) := (blk_cell BK124.out 1).trans rfl
          have hcz120_2 : wc.cell? ⟨gb124, 2, none⟩ = some (.string a0_2) := (blk_cell BK124.out 2).trans rfl
          have hcz120_3 : wc.cell? ⟨gb124, 3, none⟩ = some (.int .i64 a0_3) := (blk_cell BK124.out 3).trans rfl
          have hfz120_0 := blk_frozen BK124.out 0
          have hfz120_1 := blk_frozen BK124.out 1
          have hfz120_2 := blk_frozen BK124.out 2
          have hfz120_3 := blk_frozen BK124.out 3
          have hcz121_0 : wc.cell? ⟨gb126, 0, none⟩ = some (.int .u8 0) := (blk_cell BK126.out 0).trans rfl
          have hcz121_1 : wc.cell? ⟨gb126, 1, none⟩ = some (.int .i64 0) := (blk_cell BK126.out 1).trans rfl
          have hcz121_2 : wc.cell? ⟨gb126, 2, none⟩ = some (.string a0_2) := (blk_cell BK126.out 2).trans rfl
          have hcz121_3 : wc.cell? ⟨gb126, 3, none⟩ = some (.int .i64 a0_3) := (blk_cell BK126.out 3).trans rfl
          have hfz121_0 := blk_frozen BK126.out 0
          have hfz121_1 := blk_frozen BK126.out 1
          have hfz121_2 := blk_frozen BK126.out 2
          have hfz121_3 := blk_frozen BK126.out 3
          go_wp2
          go_ret2
          exact ⟨by first | rfl | (simp [errW_none, errW_some] <;> rfl) | (simp [*, errW_none, errW_some] <;> rfl), by repeat (first | (with_reducible first | exact HB.out | apply below_alloc | apply pw_below_drewN | apply below_drew1 | refine below_set ?_ GE124.out | refine below_set ?_ GE126.out) | exact HB.out)⟩
         ·rw [if_neg c118] at H
          have c118b0 : (!(0 == 0) || (!(0 == 0) || (!(a0_2.toList == ([] : List UInt8)) || (!(a0_3 == 0))))) = false := by simpa using c118
          have c118z : (!a0_2.toList.isEmpty || (!(a0_3 == 0))) = false := by have h_ := c118b0; revert h_; simp
          clear c118
          simp only [Option.some.injEq, Prod.mk.injEq] at H
          obtain ⟨rfl, rfl⟩ := H
          have hnb122 := NB124_126.out
          have hnc122 := NB126_124.out
          have hcz123_0 : wc.cell? ⟨gb124, 0, none⟩ = some (.int .u8 a0_0) := (blk_cell BK124.out 0).trans rfl
          have hcz123_1 : wc.cell? ⟨gb124, 1, none⟩ = some (.int .i64 a0_1) := (blk_cell BK124.out 1).trans rfl
          have hcz123_2 : wc.cell? ⟨gb124, 2, none⟩ = some (.string a0_2) := (blk_cell BK124.out 2).trans rfl
          have hcz123_3 : wc.cell? ⟨gb124, 3, none⟩ = some (.int .i64 a0_3) := (blk_cell BK124.out 3).trans rfl
          have hfz123_0 := blk_frozen BK124.out 0
          have hfz123_1 := blk_frozen BK124.out 1
          have hfz123_2 := blk_frozen BK124.out 2
          have hfz123_3 := blk_frozen BK124.out 3
          have hcz124_0 : wc.cell? ⟨gb126, 0, none⟩ = some (.int .u8 0) := (blk_cell BK126.out 0).trans rfl
          have hcz124_1 : wc.cell? ⟨gb126, 1, none⟩ = some (.int .i64 0) := (blk_cell BK126.out 1).trans rfl
          have hcz124_2 : wc.cell? ⟨gb126, 2, none⟩ = some (.string a0_2) := (blk_cell BK126.out 2).trans rfl
          have hcz124_3 : wc.cell? ⟨gb126, 3, none⟩ = some (.int .i64 a0_3) := (blk_cell BK126.out 3).trans rfl
          have hfz124_0 := blk_frozen BK126.out 0
          have hfz124_1 := blk_frozen BK126.out 1
          have hfz124_2 := blk_frozen BK126.out 2
          have hfz124_3 := blk_frozen BK126.out 3
          go_wp2
          go_ret2
          exact ⟨by first | rfl | (simp [errW_none, errW_some] <;> rfl) | (simp [*, errW_none, errW_some] <;> rfl), by repeat (first | (with_reducible first | exact HB.out | apply below_alloc | apply pw_below_drewN | apply below_drew1 | refine below_set ?_ GE124.out | refine below_set ?_ GE126.out) | exact HB.out)⟩
        ·replace c117 := Bool.eq_false_iff.mpr c117
         subst c117
         have H1 : (some ((⟨#[]⟩ : ByteArray), 81)) = some (r1, r2) := by rw [if_neg (show ¬ (false = true) by decide)] at H; exact H
         clear H
         have H := H1
         clear H1
         simp only [Option.some.injEq, Prod.mk.injEq] at H
         obtain ⟨rfl, rfl⟩ := H
         have hnb125 := NB124_126.out
         have hnc125 := NB126_124.out
         have hcz126_0 : wc.cell? ⟨gb124, 0, none⟩ = some (.int .u8 a0_0) := (blk_cell BK124.out 0).trans rfl
         have hcz126_1 : wc.cell? ⟨gb124, 1, none⟩ = some (.int .i64 a0_1) := (blk_cell BK124.out 1).trans rfl
         have hcz126_2 : wc.cell? ⟨gb124, 2, none⟩ = some (.string a0_2) := (blk_cell BK124.out 2).trans rfl
         have hcz126_3 : wc.cell? ⟨gb124, 3, none⟩ = some (.int .i64 a0_3) := (blk_cell BK124.out 3).trans rfl
         have hfz126_0 := blk_frozen BK124.out 0
         have hfz126_1 := blk_frozen BK124.out 1
         have hfz126_2 := blk_frozen BK124.out 2
         have hfz126_3 := blk_frozen BK124.out 3
         go_wp2
         go_ret2
         exact ⟨by first | rfl | (simp [errW_none, errW_some] <;> rfl) | (simp [*, errW_none, errW_some] <;> rfl), by repeat (first | (with_reducible first | exact HB.out | apply below_alloc | apply pw_below_drewN | apply below_drew1 | refine below_set ?_ GE124.out | refine below_set ?_ GE126.out) | exact HB.out)⟩
       ·rw [if_neg c116] at H
        have c116b0 : (a0_0 == 105) = false := beq_eq_false_iff_ne.mpr c116
        have c116b1 : (a0_0 != 105) = true := bne_iff_ne.mpr c116
        simp only [Option.some.injEq, Prod.mk.injEq] at H
        obtain ⟨rfl, rfl⟩ := H
        have hnb127 := NB124_126.out
        have hnc127 := NB126_124.out
        have hcz128_0 : wc.cell? ⟨gb124, 0, none⟩ = some (.int .u8 a0_0) := (blk_cell BK124.out 0).trans rfl
        have hcz128_1 : wc.cell? ⟨gb124, 1, none⟩ = some (.int .i64 a0_1) := (blk_cell BK124.out 1).trans rfl
        have hcz128_2 : wc.cell? ⟨gb124, 2, none⟩ = some (.string a0_2) := (blk_cell BK124.out 2).trans rfl
        have hcz128_3 : wc.cell? ⟨gb124, 3, none⟩ = some (.int .i64 a0_3) := (blk_cell BK124.out 3).trans rfl
        have hfz128_0 := blk_frozen BK124.out 0
        have hfz128_1 := blk_frozen BK124.out 1
        have hfz128_2 := blk_frozen BK124.out 2
        have hfz128_3 := blk_frozen BK124.out 3
        go_wp2
        go_ret2
        exact ⟨by first | rfl | (simp [errW_none, errW_some] <;> rfl) | (simp [*, errW_none, errW_some] <;> rfl), by repeat (first | (with_reducible first | exact HB.out | apply below_alloc | apply pw_below_drewN | apply below_drew1 | refine below_set ?_ GE124.out | refine below_set ?_ GE126.out) | exact HB.out)⟩

end Go.Proofs.Ytcocddpknkklhaa.PA
