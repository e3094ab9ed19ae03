-- WRITTEN BY a program of this session (pp.sh)
import Derived.Test.YtlicdfipockgaaaPAx0
import Derived.Test.YtlicdfipockgaaaPAx1
import Derived.Test.YtlicdfipockgaaaPAx2
import Derived.Test.YtlicdfipockgaaaPAx3
import Derived.Test.YtlicdfipockgaaaPAx6
import Derived.Test.YtlicdfipockgaaaPAx8
import Derived.Test.YtlicdfipockgaaaPAx9
import Derived.Test.YtlicdfipockgaaaPAx11
import Derived.Test.YtlicdfipockgaaaPAx12
import Derived.Test.YtlicdfipockgaaaPAx14
import Derived.Test.YtlicdfipockgaaaPAx15
import Derived.Test.YtlicdfipockgaaaPAx16
namespace Go.Proofs.Ytlicdfipockgaaa.PA
open Go.RowKit Go.Proofs.YtlicdfipockgaaaW.PrintWords Go.Proofs.YtlicdfipockgaaaW.PrintLast Go.Proofs.YtlicdfipockgaaaW.PrintMore Go.Proofs.Ytlicdfipockgaaa.Plain
attribute [local go_sem] max2_int min2_int max_two min_two max_three min_three max_four min_four   -- for this text's walks alone
set_option linter.unusedVariables false
set_option linter.unusedSimpArgs false

/-! ### coppicelaw02_PackReads: function 6 -/
mutual
def coppicelaw02_PackReads.j0 : Nat → ByteArray → List (S42) → Bool → Option (Bool)
  | 0, _, _, _ => none
  | k + 1, x0, x1, x18 => if x18 = true then (some true) else ((pack_Read.f x0).bind fun bt226 => (coppicelaw02_PackReads.l0 k x1 0 bt226.1 bt226.2.1 bt226.2.2 x0 0))
def coppicelaw02_PackReads.l0 : Nat → List (S42) → Int → ByteArray → Int → Int → ByteArray → Int → Option (Bool)
  | 0, _, _, _, _, _, _, _ => none
  | k + 1, x1, x7, x230000, x230001, x230002, x231000, x231001 => if x7 < (x1.length : Int) then (if 0 ≤ x7 then (if ((rd_T42 x1 x7).f0) = 0 then ((pack_Reader_Byte.f x230000 x230001 x230002).bind fun bt232 => ((coppiceref02_Reader_Byte.f x231000 x231001).bind fun bt236 => (coppicelaw02_PackReads.j2 k x1 x7 (bt232.1 == bt236.1) bt232.2.1 bt232.2.2.1 bt232.2.2.2 bt236.2.1 bt236.2.2))) else (if ((rd_T42 x1 x7).f0) = 1 then ((pack_Reader_Fixed.f k x230000 x230001 x230002).bind fun bt239 => ((coppiceref02_Reader_Fixed.f k x231000 x231001).bind fun bt243 => (coppicelaw02_PackReads.j2 k x1 x7 (bt239.1 == bt243.1) bt239.2.1 bt239.2.2.1 bt239.2.2.2 bt243.2.1 bt243.2.2))) else (if ((rd_T42 x1 x7).f0) = 2 then ((pack_Reader_Short.f x230000 x230001 x230002).bind fun bt246 => ((coppiceref02_Reader_Short.f k x231000 x231001).bind fun bt250 => (coppicelaw02_PackReads.j2 k x1 x7 (bt246.1 == bt250.1) bt246.2.1 bt246.2.2.1 bt246.2.2.2 bt250.2.1 bt250.2.2))) else (if ((rd_T42 x1 x7).f0) = 3 then ((pack_Reader_Text.f k x230000 x230001 x230002 ((rd_T42 x1 x7).f1)).bind fun bt254 => ((coppiceref02_Reader_Text.f k x231000 x231001 ((rd_T42 x1 x7).f1)).bind fun bt259 => (coppicelaw02_PackReads.j2 k x1 x7 (bt254.1.toList == bt259.1.toList) bt254.2.1 bt254.2.2.1 bt254.2.2.2 bt259.2.1 bt259.2.2))) else (coppicelaw02_PackReads.j2 k x1 x7 true x230000 x230001 x230002 x231000 x231001))))) else (none)) else ((pack_Reader_Left.f x230000 x230001 x230002).bind fun bt280 => ((coppiceref02_Reader_Left.f x231000 x231001).bind fun bt284 => (if bt280.1 = bt284.1 then ((pack_Reader_End.f bt280.2.1 bt280.2.2.1 bt280.2.2.2).bind fun bt287 => ((coppiceref02_Reader_End.f x231000 x231001).bind fun bt291 => (some (bt287.1 == bt291.1)))) else (some false))))
def coppicelaw02_PackReads.j2 : Nat → List (S42) → Int → Bool → ByteArray → Int → Int → ByteArray → Int → Option (Bool)
  | 0, _, _, _, _, _, _, _, _ => none
  | k + 1, x1, x7, x8, x230000, x230001, x230002, x231000, x231001 => if x8 = true then ((pack_Reader_Left.f x230000 x230001 x230002).bind fun bt262 => ((coppiceref02_Reader_Left.f x231000 x231001).bind fun bt266 => (if bt262.1 = bt266.1 then ((pack_Reader_Err.f bt262.2.1 bt262.2.2.1 bt262.2.2.2).bind fun bt269 => (if bt269.1 = x231001 then ((pack_Reader_End.f bt269.2.1 bt269.2.2.1 bt269.2.2.2).bind fun bt273 => ((coppiceref02_Reader_End.f x231000 x231001).bind fun bt277 => (if bt273.1 = bt277.1 then (coppicelaw02_PackReads.l0 k x1 (wrap64 (x7 + 1)) bt273.2.1 bt273.2.2.1 bt273.2.2.2 x231000 x231001) else (some false)))) else (some false))) else (some false)))) else (some false)
end
def coppicelaw02_PackReads.f (k : Nat) (a0 : ByteArray) (l1 : List (S42)) : Option (Bool) := (coppicelaw02_awake.f).bind fun t225 => (if t225 = true then (if (a0.size : Int) > 65536 then (coppicelaw02_PackReads.j0 k a0 l1 true) else (coppicelaw02_PackReads.j0 k a0 l1 (decide ((l1.length : Int) > 200)))) else (some false))
theorem coppicelaw02_PackReads.mono_l : ∀ k, (∀ y0 y1 y2, LeO (coppicelaw02_PackReads.j0 k y0 y1 y2) (coppicelaw02_PackReads.j0 (k + 1) y0 y1 y2)) ∧ (∀ y0 y1 y2 y3 y4 y5 y6, LeO (coppicelaw02_PackReads.l0 k y0 y1 y2 y3 y4 y5 y6) (coppicelaw02_PackReads.l0 (k + 1) y0 y1 y2 y3 y4 y5 y6)) ∧ (∀ y0 y1 y2 y3 y4 y5 y6 y7, LeO (coppicelaw02_PackReads.j2 k y0 y1 y2 y3 y4 y5 y6 y7) (coppicelaw02_PackReads.j2 (k + 1) y0 y1 y2 y3 y4 y5 y6 y7))
  | 0 => ⟨fun _ _ _ r h => by simp [coppicelaw02_PackReads.j0] at h, fun _ _ _ _ _ _ _ r h => by simp [coppicelaw02_PackReads.l0] at h, fun _ _ _ _ _ _ _ _ r h => by simp [coppicelaw02_PackReads.j2] at h⟩
  | k + 1 => by
    obtain ⟨ih0, ih1, ih2⟩ := coppicelaw02_PackReads.mono_l k
    refine ⟨?_, ?_, ?_⟩
    · intro y0 y1 y2
      unfold coppicelaw02_PackReads.j0
      repeat' first
      | (with_reducible exact ih0 _ _ _)
      | (with_reducible exact ih1 _ _ _ _ _ _ _)
      | (with_reducible exact ih2 _ _ _ _ _ _ _ _)
      | (with_reducible exact coppiceref02_Reader_Fixed.mono _ _ _)
      | (with_reducible exact coppiceref02_Reader_Short.mono _ _ _)
      | (with_reducible exact coppiceref02_Reader_Text.mono _ _ _ _)
      | (with_reducible exact pack_Reader_Fixed.mono _ _ _ _)
      | (with_reducible exact pack_Reader_Text.mono _ _ _ _ _)
      | (with_reducible exact LeO.refl _)
      | (with_reducible exact LeO.none _)
      | (with_reducible refine LeO.ite ?_ ?_)
      | (with_reducible refine LeO.bind ?_ (fun _ => ?_))
      | exact ih0 _ _ _
      | exact ih1 _ _ _ _ _ _ _
      | exact ih2 _ _ _ _ _ _ _ _
      | exact coppiceref02_Reader_Fixed.mono _ _ _
      | exact coppiceref02_Reader_Short.mono _ _ _
      | exact coppiceref02_Reader_Text.mono _ _ _ _
      | exact pack_Reader_Fixed.mono _ _ _ _
      | exact pack_Reader_Text.mono _ _ _ _ _
      | exact LeO.none _
      | refine LeO.ite ?_ ?_
      | refine LeO.bind ?_ (fun _ => ?_)
    · intro y0 y1 y2 y3 y4 y5 y6
      unfold coppicelaw02_PackReads.l0
      repeat' first
      | (with_reducible exact ih0 _ _ _)
      | (with_reducible exact ih1 _ _ _ _ _ _ _)
      | (with_reducible exact ih2 _ _ _ _ _ _ _ _)
      | (with_reducible exact coppiceref02_Reader_Fixed.mono _ _ _)
      | (with_reducible exact coppiceref02_Reader_Short.mono _ _ _)
      | (with_reducible exact coppiceref02_Reader_Text.mono _ _ _ _)
      | (with_reducible exact pack_Reader_Fixed.mono _ _ _ _)
      | (with_reducible exact pack_Reader_Text.mono _ _ _ _ _)
      | (with_reducible exact LeO.refl _)
      | (with_reducible exact LeO.none _)
      | (with_reducible refine LeO.ite ?_ ?_)
      | (with_reducible refine LeO.bind ?_ (fun _ => ?_))
      | exact ih0 _ _ _
      | exact ih1 _ _ _ _ _ _ _
      | exact ih2 _ _ _ _ _ _ _ _
      | exact coppiceref02_Reader_Fixed.mono _ _ _
      | exact coppiceref02_Reader_Short.mono _ _ _
      | exact coppiceref02_Reader_Text.mono _ _ _ _
      | exact pack_Reader_Fixed.mono _ _ _ _
      | exact pack_Reader_Text.mono _ _ _ _ _
      | exact LeO.none _
      | refine LeO.ite ?_ ?_
      | refine LeO.bind ?_ (fun _ => ?_)
    · intro y0 y1 y2 y3 y4 y5 y6 y7
      unfold coppicelaw02_PackReads.j2
      repeat' first
      | (with_reducible exact ih0 _ _ _)
      | (with_reducible exact ih1 _ _ _ _ _ _ _)
      | (with_reducible exact ih2 _ _ _ _ _ _ _ _)
      | (with_reducible exact coppiceref02_Reader_Fixed.mono _ _ _)
      | (with_reducible exact coppiceref02_Reader_Short.mono _ _ _)
      | (with_reducible exact coppiceref02_Reader_Text.mono _ _ _ _)
      | (with_reducible exact pack_Reader_Fixed.mono _ _ _ _)
      | (with_reducible exact pack_Reader_Text.mono _ _ _ _ _)
      | (with_reducible exact LeO.refl _)
      | (with_reducible exact LeO.none _)
      | (with_reducible refine LeO.ite ?_ ?_)
      | (with_reducible refine LeO.bind ?_ (fun _ => ?_))
      | exact ih0 _ _ _
      | exact ih1 _ _ _ _ _ _ _
      | exact ih2 _ _ _ _ _ _ _ _
      | exact coppiceref02_Reader_Fixed.mono _ _ _
      | exact coppiceref02_Reader_Short.mono _ _ _
      | exact coppiceref02_Reader_Text.mono _ _ _ _
      | exact pack_Reader_Fixed.mono _ _ _ _
      | exact pack_Reader_Text.mono _ _ _ _ _
      | exact LeO.none _
      | refine LeO.ite ?_ ?_
      | refine LeO.bind ?_ (fun _ => ?_)
theorem coppicelaw02_PackReads.mono : ∀ a0 a1 k, LeO (coppicelaw02_PackReads.f k a0 a1) (coppicelaw02_PackReads.f (k + 1) a0 a1) := by
  intro a0 a1 k
  obtain ⟨ih0, ih1, ih2⟩ := coppicelaw02_PackReads.mono_l k
  unfold coppicelaw02_PackReads.f
  repeat' first
      | (with_reducible exact ih0 _ _ _)
      | (with_reducible exact ih1 _ _ _ _ _ _ _)
      | (with_reducible exact ih2 _ _ _ _ _ _ _ _)
      | (with_reducible exact coppiceref02_Reader_Fixed.mono _ _ _)
      | (with_reducible exact coppiceref02_Reader_Short.mono _ _ _)
      | (with_reducible exact coppiceref02_Reader_Text.mono _ _ _ _)
      | (with_reducible exact pack_Reader_Fixed.mono _ _ _ _)
      | (with_reducible exact pack_Reader_Text.mono _ _ _ _ _)
      | (with_reducible exact LeO.refl _)
      | (with_reducible exact LeO.none _)
      | (with_reducible refine LeO.ite ?_ ?_)
      | (with_reducible refine LeO.bind ?_ (fun _ => ?_))
      | exact ih0 _ _ _
      | exact ih1 _ _ _ _ _ _ _
      | exact ih2 _ _ _ _ _ _ _ _
      | exact coppiceref02_Reader_Fixed.mono _ _ _
      | exact coppiceref02_Reader_Short.mono _ _ _
      | exact coppiceref02_Reader_Text.mono _ _ _ _
      | exact pack_Reader_Fixed.mono _ _ _ _
      | exact pack_Reader_Text.mono _ _ _ _ _
      | exact LeO.none _
      | refine LeO.ite ?_ ?_
      | refine LeO.bind ?_ (fun _ => ?_)
def coppicelaw02_PackReads.T18 : Bool × List (List Nat × List Nat) := (true, [([], []), ([], []), ([], []), ([1, 2], [1, 2]), ([3], [3]), ([4], [4]), ([0, 5], [0, 5]), ([], []), ([], []), ([], []), ([8, 9], [8, 9]), ([10], [10]), ([11], [11]), ([7, 12, 6], [7, 12]), ([6, 13], [6, 13]), ([14, 13, 0, 1, 2, 3, 4, 5, 6, 7, 8, 9, 10, 11, 12, 13, 14], [14])])
def coppicelaw02_PackReads.B18 : List Nat := [0, 0, 0, 6, 14, 30, 63, 0, 0, 0, 768, 1792, 3840, 8191, 16383, 32767]
theorem coppicelaw02_PackReads.tab18 : rtab .any (opsOf Try.f6 18) = coppicelaw02_PackReads.T18 := by kernel_rfl
theorem coppicelaw02_PackReads.bits18 : waitsOk coppicelaw02_PackReads.T18.2 coppicelaw02_PackReads.B18 = true := by kernel_rfl
def coppicelaw02_PackReads.T19 : Bool × List (List Nat × List Nat) := (true, [([], []), ([0], [0]), ([1], [1]), ([2], [2]), ([3, 2, 2], [2, 3]), ([2], [2]), ([5, 4, 2], [2, 5]), ([4, 6, 2], [2, 4, 6]), ([2, 7], [2, 7]), ([8, 6], [8]), ([9], [9]), ([10, 9, 9], [9, 10]), ([9], [9]), ([12, 9], [9, 12]), ([13, 9], [9, 13]), ([14, 9], [9, 14]), ([11, 15, 9], [9, 11, 15]), ([9, 16], [9, 16]), ([17, 11], [17]), ([18], [18]), ([19, 18, 18], [18, 19]), ([18], [18]), ([21, 20, 18], [18, 21]), ([20, 22, 18], [18, 20, 22]), ([18, 23], [18, 23])])
def coppicelaw02_PackReads.B19 : List Nat := [0, 1, 3, 7, 15, 7, 63, 127, 255, 511, 1023, 2047, 1023, 5119, 13311, 29695, 65535, 131071, 262143, 524287, 1048575, 524287, 4194303, 8388607, 16777215]
theorem coppicelaw02_PackReads.tab19 : rtab .any (opsOf Try.f6 19) = coppicelaw02_PackReads.T19 := by kernel_rfl
theorem coppicelaw02_PackReads.bits19 : waitsOk coppicelaw02_PackReads.T19.2 coppicelaw02_PackReads.B19 = true := by kernel_rfl
set_option maxHeartbeats 8000000 in
set_option maxRecDepth 100000 in
theorem coppicelaw02_PackReads.calls (k : Nat) (a0 : ByteArray) (A1 : Option Addr) (c1 : Nat) (l1 : List (S42)) (r : Bool) (w : World) (hr1 : Kd.C k42 w A1 l1.length l1) (hc1 : l1.length ≤ c1) (h : coppicelaw02_PackReads.f k a0 l1 = some r) :
    Calls Try.prog 6 #[.string a0, .slice A1 l1.length c1] w fun e w' => e = .returned (.bool r) ∧ Below w.heap.size w w' := by
  have hu40 := Try.underlying40
  have HR1 := Aside0.mk hr1
  have HC1 := Aside0.mk hc1
  clear hr1 hc1
  have HB := Aside0.mk (Below.refl w.heap.size w)
  have H : ((coppicelaw02_awake.f).bind fun t225 => (if t225 = true then (if (a0.size : Int) > 65536 then (coppicelaw02_PackReads.j0 k a0 l1 true) else (coppicelaw02_PackReads.j0 k a0 l1 (decide ((l1.length : Int) > 200)))) else (some false))) = some r := h
  clear h
  replace H := Option.bind_eq_some_iff.mp H
  obtain ⟨t225, A30, H⟩ := H
  replace H : (if t225 = true then (if (a0.size : Int) > 65536 then (coppicelaw02_PackReads.j0 k a0 l1 true) else (coppicelaw02_PackReads.j0 k a0 l1 (decide ((l1.length : Int) > 200)))) else (some false)) = some r := H
  have A3 := Aside0.mk A30
  clear A30
  by_cases c4 : t225 = true
  · subst c4
    have H1 : (if (a0.size : Int) > 65536 then (coppicelaw02_PackReads.j0 k a0 l1 true) else (coppicelaw02_PackReads.j0 k a0 l1 (decide ((l1.length : Int) > 200)))) = some r := by rw [if_pos rfl] at H; exact H
    clear H
    have H := H1
    clear H1
    have HC5 := Aside0.mk H
    clear H
    go_enter Try.func6, Try.ntmps6
    go_upto_region 3 with (first | ((with_reducible refine gate_callee (f := 10) rfl ?_); refine goesL_ (some 9) rfl rfl Try.func10 (by kernel_rfl) rfl #[] rfl (by (try simp only [List.map_toArray, List.map_cons, List.map_nil]); first | done | rfl | (simp only [List.length_drop, List.length_take]; rfl)) ?_; (with_reducible refine (coppicelaw02_awake.calls  true _ A3.out).mono ?_); rintro e w6 ⟨rfl, hb⟩; refine ⟨_, rfl, ?_⟩; have n0_ := Aside0.mk (below_step (by repeat (first | (with_reducible first | exact HB.out | apply below_alloc | apply pw_below_drewN | apply below_drew1) | exact HB.out)) hb); clear HB; have HB := n0_; clear n0_; (try clear hb); (try clear hb2); (try clear hk); (try clear hi)))
    (try simp only [Act.put, List.setIfInBounds_toArray, List.set_cons_zero, List.set_cons_succ])
    go_cut [18] (fun v18 wc => ∃ (kq : Nat) (x18_4 : Bool), v18 = .bool x18_4 ∧ Aside0 (coppicelaw02_PackReads.j0 kq a0 l1 x18_4 = some r) ∧ Aside0 (kq ≤ k) ∧ Aside0 (Below w.heap.size w wc))
    case first =>
      have H := HC5.out
      clear HC5
      by_cases c7 : (a0.size : Int) > 65536
      · rw [if_pos c7] at H
        have c7b0 : decide (65536 < (a0.size : Int)) = true := decide_eq_true c7
        have c7b1 : decide (65536 < a0.size) = true := decide_eq_true (by omega)
        clear c7
        (first | rw [c7b0] | (simp only [i64_w, i32_w]; rw [c7b0]) | skip)
        have H' := Aside0.mk H
        clear H
        go_wp2
        go_meet
        case rel => exact ⟨_, (true), (by first | rfl | (simp; done) | (simp [*]; done)), H', ⟨by first | omega | exact Nat.le_refl _⟩, ⟨by repeat (first | (with_reducible first | exact HB.out | apply below_alloc | apply pw_below_drewN | apply below_drew1) | exact HB.out)⟩⟩
      · rw [if_neg c7] at H
        have c7b0 : decide (65536 < (a0.size : Int)) = false := decide_eq_false c7
        have c7b1 : decide (65536 < a0.size) = false := decide_eq_false (by omega)
        clear c7
        (first | rw [c7b0] | (simp only [i64_w, i32_w]; rw [c7b0]) | skip)
        have H' := Aside0.mk H
        clear H
        go_wp2
        go_meet
        case rel => exact ⟨_, (decide ((l1.length : Int) > 200)), (by first | rfl | (simp; done) | (simp [*]; done)), H', ⟨by first | omega | exact Nat.le_refl _⟩, ⟨by repeat (first | (with_reducible first | exact HB.out | apply below_alloc | apply pw_below_drewN | apply below_drew1) | exact HB.out)⟩⟩
    case rest =>
      clear HC5
      try clear c1
      try clear p2
      try clear c4
      try clear c6
      try clear c7
      try clear c7b0
      try clear c7b1
      obtain ⟨kq, x18_4, rfl, HA, HJ4, HB⟩ := hcut
      cases kq with
      | zero => exact absurd HA.out (by simp [coppicelaw02_PackReads.j0])
      | succ kj4 =>
        have H := HA.out
        clear HA
        simp only [coppicelaw02_PackReads.j0] at H
        by_cases c8 : x18_4 = true
        · subst c8
          have H1 : (some true) = some r := by rw [if_pos rfl] at H; exact H
          clear H
          have H := H1
          clear H1
          obtain rfl := Option.some.inj H
          go_wp2
          go_ret
          exact ⟨by first | rfl | (simp [errW_none, errW_some] <;> rfl) | (simp [*, errW_none, errW_some] <;> rfl), by repeat (first | (with_reducible first | exact HB.out | apply below_alloc | apply pw_below_drewN | apply below_drew1) | exact HB.out)⟩
        · replace c8 := Bool.eq_false_iff.mpr c8
          subst c8
          have H1 : ((pack_Read.f a0).bind fun bt226 => (coppicelaw02_PackReads.l0 kj4 l1 0 bt226.1 bt226.2.1 bt226.2.2 a0 0)) = some r := by rw [if_neg (show ¬ (false = true) by decide)] at H; exact H
          clear H
          have H := H1
          clear H1
          replace H := Option.bind_eq_some_iff.mp H
          obtain ⟨⟨t226, t227, t228⟩, A90, H⟩ := H
          replace H : (coppicelaw02_PackReads.l0 kj4 l1 0 t226 t227 t228 a0 0) = some r := H
          have A9 := Aside0.mk A90
          clear A90
          have H' := Aside0.mk H
          clear H
          go_wp2_with (first | ((with_reducible refine gate_callee (f := 17) rfl ?_); refine goesL_ (some 20) rfl rfl Try.func17 (by kernel_rfl) rfl #[.string a0] rfl (by (try simp only [List.map_toArray, List.map_cons, List.map_nil]); first | done | rfl | (simp only [List.length_drop, List.length_take]; rfl)) ?_; (with_reducible refine (pack_Read.calls a0 t226 t227 t228 w _ ?side1 A9.out).mono ?_); (case side1 => repeat (first | (with_reducible first | exact HB.out | apply below_alloc | apply pw_below_drewN | apply below_drew1) | exact HB.out)); rintro e w10 ⟨g229, rfl, hi, hb, hb2⟩; refine ⟨_, rfl, ?_⟩; have n0_ := Aside0.mk (hb); have n1_ := Aside0.mk (hi); clear HB; have HB := n0_; have HI229 := n1_; clear n0_ n1_; (try clear hb); (try clear hb2); (try clear hk); (try clear hi)) | ((with_reducible refine gate_dst (N := 23) rfl ?_); (try (refine gate_guard (by rfl) ?_; dsimp only)); refine box_event ?hg (N := 23) ?hd (cs := #[.string a0, .int .i64 0]) (t := 40) ?hr ?_; (case hd => rfl); (case hg => rfl); (case hr => first | (go_simp; done) | (go_simp; rfl)); intro gb230 hg w11 hbox hb; have n0_ := Aside0.mk (IsS54.below (by repeat (first | (with_reducible first | exact HI229.out | apply IsS54.alloc | apply IsS54.drewN | apply IsS54.drew | apply IsS54.set_0 | apply IsS54.set_1 | apply IsS54.set_2) | exact HI229.out)) hb); have n1_ := Aside0.mk (below_step (by repeat (first | (with_reducible first | exact HB.out | apply below_alloc | apply pw_below_drewN | apply below_drew1 | refine below_set ?_ (IsS54.ge HI229.out)) | exact HB.out)) hb); have n2_ := Aside0.mk ((show IsS40 w _ gb230 a0 0 from ⟨hbox, (by rw [hg]; exact (below_size (by repeat (first | (with_reducible first | exact HB.out | apply below_alloc | apply pw_below_drewN | apply below_drew1 | refine below_set ?_ (IsS54.ge HI229.out)) | exact HB.out))) : w.heap.size ≤ gb230)⟩)); have n3_ := Aside0.mk ((by rw [hg]; exact (below_size (by repeat (first | (with_reducible first | exact HB.out | apply below_alloc | apply pw_below_drewN | apply below_drew1 | refine below_set ?_ (IsS54.ge HI229.out)) | exact HB.out))) : w.heap.size ≤ gb230)); have n4_ := Aside0.mk ((by rw [hg]; exact (below_size (by repeat (first | (with_reducible first | exact HB.out | apply below_alloc | apply pw_below_drewN | apply below_drew1 | refine below_set ?_ (IsS54.ge HI229.out)) | exact HB.out))) : w.heap.size ≤ gb230)); have n5_ := Aside0.mk ((by rw [hg]; exact Nat.ne_of_lt (IsS54.lt (show IsS54 w _ g229 t226 t227 t228 from by repeat (first | (with_reducible first | exact HI229.out | apply IsS54.alloc | apply IsS54.drewN | apply IsS54.drew | apply IsS54.set_0 | apply IsS54.set_1 | apply IsS54.set_2) | exact HI229.out))) : g229 ≠ gb230)); have n6_ := Aside0.mk ((by rw [hg]; exact Nat.ne_of_gt (IsS54.lt (show IsS54 w _ g229 t226 t227 t228 from by repeat (first | (with_reducible first | exact HI229.out | apply IsS54.alloc | apply IsS54.drewN | apply IsS54.drew | apply IsS54.set_0 | apply IsS54.set_1 | apply IsS54.set_2) | exact HI229.out))) : gb230 ≠ g229)); clear HI229; clear HB; have HI229 := n0_; have HB := n1_; have HI230 := n2_; have GW230 := n3_; have GE230 := n4_; have NB229_230 := n5_; have NB230_229 := n6_; clear n0_ n1_ n2_ n3_ n4_ n5_ n6_; clear hb hbox hg))
          go_loopg [7] kj4 (fun kq v7 w' => ∃ (x7_2 : Int) (x230000_2 : ByteArray) (x230001_2 : Int) (x230002_2 : Int) (x231000_2 : ByteArray) (x231001_2 : Int), v7 = .int .i64 x7_2 ∧ Aside0 (coppicelaw02_PackReads.l0 kq l1 x7_2 x230000_2 x230001_2 x230002_2 x231000_2 x231001_2 = some r) ∧ Aside0 (kq ≤ kj4) ∧ Aside0 (IsS54 w w' g229 x230000_2 x230001_2 x230002_2) ∧ Aside0 (IsS40 w w' gb230 x231000_2 x231001_2) ∧ Aside0 (Below w.heap.size w w'))
          case atStart => exact ⟨(0), (t226), (t227), (t228), (a0), (0), (by first | rfl | (simp; done) | (simp [*]; done)), H', ⟨Nat.le_refl _⟩, ⟨by repeat (first | (with_reducible first | exact HI229.out | apply IsS54.alloc | apply IsS54.drewN | apply IsS54.drew | apply IsS54.set_0 | apply IsS54.set_1 | apply IsS54.set_2) | exact HI229.out)⟩, ⟨by repeat (first | (with_reducible first | exact HI230.out | apply IsS40.alloc | apply IsS40.drewN | apply IsS40.drew | apply IsS40.set_0 | apply IsS40.set_1) | exact HI230.out)⟩, ⟨by repeat (first | (with_reducible first | exact HB.out | apply below_alloc | apply pw_below_drewN | apply below_drew1 | refine below_set ?_ (IsS54.ge HI229.out) | refine below_set ?_ (IsS40.ge HI230.out)) | exact HB.out)⟩⟩
          case round =>
            clear H'
            try clear c1
            try clear p2
            try clear c4
            try clear c6
            try clear c7
            try clear c7b0
            try clear c7b1
            try clear c8
            try clear c10
            try clear p2
            obtain ⟨x7_2, x230000_2, x230001_2, x230002_2, x231000_2, x231001_2, rfl, HA, HK2, HI229, HI230, HB⟩ := hrel
            cases gk with
            | zero => exact absurd HA.out (by simp [coppicelaw02_PackReads.l0])
            | succ k2 =>
              have H := HA.out
              clear HA
              simp only [coppicelaw02_PackReads.l0] at H
              by_cases c12 : x7_2 < (l1.length : Int)
              · rw [if_pos c12] at H
                have c12b0 : decide (x7_2 < (l1.length : Int)) = true := decide_eq_true c12
                clear c12
                by_cases c13 : 0 ≤ x7_2
                · rw [if_pos c13] at H
                  have c13b0 : decide (0 ≤ x7_2) = true := decide_eq_true c13
                  clear c13
                  have HC14 := Aside0.mk H
                  clear H
                  have p231 : 0 ≤ (x7_2 : Int) := of_decide_eq_true (by first | (with_reducible assumption) | assumption)
                  have q231 : x7_2 < (l1.length : Int) := of_decide_eq_true (by first | (with_reducible assumption) | assumption)
                  obtain ⟨ad231, e231, hx231_0, hx231_1⟩ := at_T42 HR1.out x7_2 p231 q231
                  cases e231
                  replace hx231_0 := (HB.out.cell (World.block_lt_of_cell? w _ hx231_0)).trans hx231_0
                  replace hx231_1 := (HB.out.cell (World.block_lt_of_cell? w _ hx231_1)).trans hx231_1
                  replace p231 := eq_true p231
                  replace q231 := eq_true q231
                  go_upto_block 2 with (fail)
                  go_cut [8] (fun v8 wc => ∃ (kq : Nat) (x8_13 : Bool) (x230000_13 : ByteArray) (x230001_13 : Int) (x230002_13 : Int) (x231000_13 : ByteArray) (x231001_13 : Int), v8 = .bool x8_13 ∧ Aside0 (coppicelaw02_PackReads.j2 kq l1 x7_2 x8_13 x230000_13 x230001_13 x230002_13 x231000_13 x231001_13 = some r) ∧ Aside0 (kq ≤ k2) ∧ Aside0 (IsS54 w wc g229 x230000_13 x230001_13 x230002_13) ∧ Aside0 (IsS40 w wc gb230 x231000_13 x231001_13) ∧ Aside0 (Below w.heap.size w wc))
                  case first =>
                    have H := HC14.out
                    clear HC14
                    by_cases c15 : ((rd_T42 l1 x7_2).f0) = 0
                    · rw [if_pos c15] at H
                      have c15b0 : (((rd_T42 l1 x7_2).f0) == 0) = true := beq_iff_eq.mpr c15
                      have c15b1 : (((rd_T42 l1 x7_2).f0) != 0) = false := bne_eq_false_iff_eq.mpr c15
                      clear c15
                      (first | rw [c15b0] | (simp only [i64_w, i32_w]; rw [c15b0]) | skip)
                      replace H := Option.bind_eq_some_iff.mp H
                      obtain ⟨⟨t232, t233, t234, t235⟩, A160, H⟩ := H
                      replace H : ((coppiceref02_Reader_Byte.f x231000_2 x231001_2).bind fun bt236 => (coppicelaw02_PackReads.j2 k2 l1 x7_2 (t232 == bt236.1) t233 t234 t235 bt236.2.1 bt236.2.2)) = some r := H
                      have A16 := Aside0.mk A160
                      clear A160
                      replace H := Option.bind_eq_some_iff.mp H
                      obtain ⟨⟨t236, t237, t238⟩, A170, H⟩ := H
                      replace H : (coppicelaw02_PackReads.j2 k2 l1 x7_2 (t232 == t236) t233 t234 t235 t237 t238) = some r := H
                      have A17 := Aside0.mk A170
                      clear A170
                      have H' := Aside0.mk H
                      clear H
                      go_wp2_with (first | ((with_reducible refine gate_callee (f := 23) rfl ?_); refine goesL_ (some 38) rfl rfl Try.func23 (by kernel_rfl) rfl #[.pointer (some ⟨g229, 0, none⟩)] rfl (by (try simp only [List.map_toArray, List.map_cons, List.map_nil]); first | done | rfl | (simp only [List.length_drop, List.length_take]; rfl)) ?_; (with_reducible refine (pack_Reader_Byte.calls g229 x230000_2 x230001_2 x230002_2 t232 t233 t234 t235 w _ ?side1 ?side2 A16.out).mono ?_); (case side1 => repeat (first | (with_reducible first | exact HI229.out | apply IsS54.alloc | apply IsS54.drewN | apply IsS54.drew | apply IsS54.set_0 | apply IsS54.set_1 | apply IsS54.set_2) | exact HI229.out)); (case side2 => repeat (first | (with_reducible first | exact HB.out | apply below_alloc | apply pw_below_drewN | apply below_drew1 | refine below_set ?_ (IsS54.ge HI229.out) | refine below_set ?_ (IsS40.ge HI230.out)) | exact HB.out)); rintro e w18 ⟨rfl, hi, hb, hk⟩; refine ⟨_, rfl, ?_⟩; have n0_ := Aside0.mk ((show IsS40 w _ gb230 x231000_2 x231001_2 from ⟨KeepBut.blk hk (show IsS40 w _ gb230 x231000_2 x231001_2 from by repeat (first | (with_reducible first | exact HI230.out | apply IsS40.alloc | apply IsS40.drewN | apply IsS40.drew | apply IsS40.set_0 | apply IsS40.set_1) | exact HI230.out)).1 (IsS54.ne_blk (show IsS54 w _ g229 x230000_2 x230001_2 x230002_2 from by repeat (first | (with_reducible first | exact HI229.out | apply IsS54.alloc | apply IsS54.drewN | apply IsS54.drew | apply IsS54.set_0 | apply IsS54.set_1 | apply IsS54.set_2) | exact HI229.out)) (show IsS40 w _ gb230 x231000_2 x231001_2 from by repeat (first | (with_reducible first | exact HI230.out | apply IsS40.alloc | apply IsS40.drewN | apply IsS40.drew | apply IsS40.set_0 | apply IsS40.set_1) | exact HI230.out)).1 (by decide)).symm (by simp), (show IsS40 w _ gb230 x231000_2 x231001_2 from by repeat (first | (with_reducible first | exact HI230.out | apply IsS40.alloc | apply IsS40.drewN | apply IsS40.drew | apply IsS40.set_0 | apply IsS40.set_1) | exact HI230.out)).2⟩)); have n1_ := Aside0.mk (hb); have n2_ := Aside0.mk (hi); clear HI230; clear HB; clear HI229; have HI230 := n0_; have HB := n1_; have HI229 := n2_; clear n0_ n1_ n2_; (try clear hb); (try clear hb2); (try clear hk); (try clear hi)) | ((with_reducible refine gate_callee (f := 24) rfl ?_); refine goesL_ (some 40) rfl rfl Try.func24 (by kernel_rfl) rfl #[.pointer (some ⟨gb230, 0, none⟩)] rfl (by (try simp only [List.map_toArray, List.map_cons, List.map_nil]); first | done | rfl | (simp only [List.length_drop, List.length_take]; rfl)) ?_; (with_reducible refine (coppiceref02_Reader_Byte.calls gb230 x231000_2 x231001_2 t236 t237 t238 w _ ?side1 ?side2 A17.out).mono ?_); (case side1 => repeat (first | (with_reducible first | exact HI230.out | apply IsS40.alloc | apply IsS40.drewN | apply IsS40.drew | apply IsS40.set_0 | apply IsS40.set_1) | exact HI230.out)); (case side2 => repeat (first | (with_reducible first | exact HB.out | apply below_alloc | apply pw_below_drewN | apply below_drew1 | refine below_set ?_ (IsS54.ge HI229.out) | refine below_set ?_ (IsS40.ge HI230.out)) | exact HB.out)); rintro e w19 ⟨rfl, hi, hb, hk⟩; refine ⟨_, rfl, ?_⟩; have n0_ := Aside0.mk ((show IsS54 w _ g229 t233 t234 t235 from ⟨KeepBut.blk hk (show IsS54 w _ g229 t233 t234 t235 from by repeat (first | (with_reducible first | exact HI229.out | apply IsS54.alloc | apply IsS54.drewN | apply IsS54.drew | apply IsS54.set_0 | apply IsS54.set_1 | apply IsS54.set_2) | exact HI229.out)).1 (IsS40.ne_blk (show IsS40 w _ gb230 x231000_2 x231001_2 from by repeat (first | (with_reducible first | exact HI230.out | apply IsS40.alloc | apply IsS40.drewN | apply IsS40.drew | apply IsS40.set_0 | apply IsS40.set_1) | exact HI230.out)) (show IsS54 w _ g229 t233 t234 t235 from by repeat (first | (with_reducible first | exact HI229.out | apply IsS54.alloc | apply IsS54.drewN | apply IsS54.drew | apply IsS54.set_0 | apply IsS54.set_1 | apply IsS54.set_2) | exact HI229.out)).1 (by decide)).symm (by simp), (show IsS54 w _ g229 t233 t234 t235 from by repeat (first | (with_reducible first | exact HI229.out | apply IsS54.alloc | apply IsS54.drewN | apply IsS54.drew | apply IsS54.set_0 | apply IsS54.set_1 | apply IsS54.set_2) | exact HI229.out)).2⟩)); have n1_ := Aside0.mk (hb); have n2_ := Aside0.mk (hi); clear HI229; clear HB; clear HI230; have HI229 := n0_; have HB := n1_; have HI230 := n2_; clear n0_ n1_ n2_; (try clear hb); (try clear hb2); (try clear hk); (try clear hi)))
                      go_meet
                      case rel => exact ⟨_, ((t232 == t236)), (t233), (t234), (t235), (t237), (t238), (by first | rfl | (simp; done) | (simp [*]; done)), H', ⟨by have := HJ4.out; have := HK2.out; first | omega | exact Nat.le_refl _⟩, ⟨by repeat (first | (with_reducible first | exact HI229.out | apply IsS54.alloc | apply IsS54.drewN | apply IsS54.drew | apply IsS54.set_0 | apply IsS54.set_1 | apply IsS54.set_2) | exact HI229.out)⟩, ⟨by repeat (first | (with_reducible first | exact HI230.out | apply IsS40.alloc | apply IsS40.drewN | apply IsS40.drew | apply IsS40.set_0 | apply IsS40.set_1) | exact HI230.out)⟩, ⟨by repeat (first | (with_reducible first | exact HB.out | apply below_alloc | apply pw_below_drewN | apply below_drew1 | refine below_set ?_ (IsS54.ge HI229.out) | refine below_set ?_ (IsS40.ge HI230.out)) | exact HB.out)⟩⟩
                    · rw [if_neg c15] at H
                      have c15b0 : (((rd_T42 l1 x7_2).f0) == 0) = false := beq_eq_false_iff_ne.mpr c15
                      have c15b1 : (((rd_T42 l1 x7_2).f0) != 0) = true := bne_iff_ne.mpr c15
                      (first | rw [c15b0] | (simp only [i64_w, i32_w]; rw [c15b0]) | skip)
                      by_cases c20 : ((rd_T42 l1 x7_2).f0) = 1
                      · rw [if_pos c20] at H
                        have c20b0 : (((rd_T42 l1 x7_2).f0) == 1) = true := beq_iff_eq.mpr c20
                        have c20b1 : (((rd_T42 l1 x7_2).f0) != 1) = false := bne_eq_false_iff_eq.mpr c20
                        clear c20
                        replace H := Option.bind_eq_some_iff.mp H
                        obtain ⟨⟨t239, t240, t241, t242⟩, A210, H⟩ := H
                        replace H : ((coppiceref02_Reader_Fixed.f k2 x231000_2 x231001_2).bind fun bt243 => (coppicelaw02_PackReads.j2 k2 l1 x7_2 (t239 == bt243.1) t240 t241 t242 bt243.2.1 bt243.2.2)) = some r := H
                        have A21 := Aside0.mk A210
                        clear A210
                        replace H := Option.bind_eq_some_iff.mp H
                        obtain ⟨⟨t243, t244, t245⟩, A220, H⟩ := H
                        replace H : (coppicelaw02_PackReads.j2 k2 l1 x7_2 (t239 == t243) t240 t241 t242 t244 t245) = some r := H
                        have A22 := Aside0.mk A220
                        clear A220
                        have H' := Aside0.mk H
                        clear H
                        go_wp2_with (first | ((with_reducible refine gate_callee (f := 22) rfl ?_); refine goesL_ (some 45) rfl rfl Try.func22 (by kernel_rfl) rfl #[.pointer (some ⟨g229, 0, none⟩)] rfl (by (try simp only [List.map_toArray, List.map_cons, List.map_nil]); first | done | rfl | (simp only [List.length_drop, List.length_take]; rfl)) ?_; (with_reducible refine (pack_Reader_Fixed.calls k2 g229 x230000_2 x230001_2 x230002_2 t239 t240 t241 t242 w _ ?side1 ?side2 A21.out).mono ?_); (case side1 => repeat (first | (with_reducible first | exact HI229.out | apply IsS54.alloc | apply IsS54.drewN | apply IsS54.drew | apply IsS54.set_0 | apply IsS54.set_1 | apply IsS54.set_2) | exact HI229.out)); (case side2 => repeat (first | (with_reducible first | exact HB.out | apply below_alloc | apply pw_below_drewN | apply below_drew1 | refine below_set ?_ (IsS54.ge HI229.out) | refine below_set ?_ (IsS40.ge HI230.out)) | exact HB.out)); rintro e w23 ⟨rfl, hi, hb, hk⟩; refine ⟨_, rfl, ?_⟩; have n0_ := Aside0.mk ((show IsS40 w _ gb230 x231000_2 x231001_2 from ⟨KeepBut.blk hk (show IsS40 w _ gb230 x231000_2 x231001_2 from by repeat (first | (with_reducible first | exact HI230.out | apply IsS40.alloc | apply IsS40.drewN | apply IsS40.drew | apply IsS40.set_0 | apply IsS40.set_1) | exact HI230.out)).1 (IsS54.ne_blk (show IsS54 w _ g229 x230000_2 x230001_2 x230002_2 from by repeat (first | (with_reducible first | exact HI229.out | apply IsS54.alloc | apply IsS54.drewN | apply IsS54.drew | apply IsS54.set_0 | apply IsS54.set_1 | apply IsS54.set_2) | exact HI229.out)) (show IsS40 w _ gb230 x231000_2 x231001_2 from by repeat (first | (with_reducible first | exact HI230.out | apply IsS40.alloc | apply IsS40.drewN | apply IsS40.drew | apply IsS40.set_0 | apply IsS40.set_1) | exact HI230.out)).1 (by decide)).symm (by simp), (show IsS40 w _ gb230 x231000_2 x231001_2 from by repeat (first | (with_reducible first | exact HI230.out | apply IsS40.alloc | apply IsS40.drewN | apply IsS40.drew | apply IsS40.set_0 | apply IsS40.set_1) | exact HI230.out)).2⟩)); have n1_ := Aside0.mk (hb); have n2_ := Aside0.mk (hi); clear HI230; clear HB; clear HI229; have HI230 := n0_; have HB := n1_; have HI229 := n2_; clear n0_ n1_ n2_; (try clear hb); (try clear hb2); (try clear hk); (try clear hi)) | ((with_reducible refine gate_callee (f := 25) rfl ?_); refine goesL_ (some 47) rfl rfl Try.func25 (by kernel_rfl) rfl #[.pointer (some ⟨gb230, 0, none⟩)] rfl (by (try simp only [List.map_toArray, List.map_cons, List.map_nil]); first | done | rfl | (simp only [List.length_drop, List.length_take]; rfl)) ?_; (with_reducible refine (coppiceref02_Reader_Fixed.calls k2 gb230 x231000_2 x231001_2 t243 t244 t245 w _ ?side1 ?side2 A22.out).mono ?_); (case side1 => repeat (first | (with_reducible first | exact HI230.out | apply IsS40.alloc | apply IsS40.drewN | apply IsS40.drew | apply IsS40.set_0 | apply IsS40.set_1) | exact HI230.out)); (case side2 => repeat (first | (with_reducible first | exact HB.out | apply below_alloc | apply pw_below_drewN | apply below_drew1 | refine below_set ?_ (IsS54.ge HI229.out) | refine below_set ?_ (IsS40.ge HI230.out)) | exact HB.out)); rintro e w24 ⟨rfl, hi, hb, hk⟩; refine ⟨_, rfl, ?_⟩; have n0_ := Aside0.mk ((show IsS54 w _ g229 t240 t241 t242 from ⟨KeepBut.blk hk (show IsS54 w _ g229 t240 t241 t242 from by repeat (first | (with_reducible first | exact HI229.out | apply IsS54.alloc | apply IsS54.drewN | apply IsS54.drew | apply IsS54.set_0 | apply IsS54.set_1 | apply IsS54.set_2) | exact HI229.out)).1 (IsS40.ne_blk (show IsS40 w _ gb230 x231000_2 x231001_2 from by repeat (first | (with_reducible first | exact HI230.out | apply IsS40.alloc | apply IsS40.drewN | apply IsS40.drew | apply IsS40.set_0 | apply IsS40.set_1) | exact HI230.out)) (show IsS54 w _ g229 t240 t241 t242 from by repeat (first | (with_reducible first | exact HI229.out | apply IsS54.alloc | apply IsS54.drewN | apply IsS54.drew | apply IsS54.set_0 | apply IsS54.set_1 | apply IsS54.set_2) | exact HI229.out)).1 (by decide)).symm (by simp), (show IsS54 w _ g229 t240 t241 t242 from by repeat (first | (with_reducible first | exact HI229.out | apply IsS54.alloc | apply IsS54.drewN | apply IsS54.drew | apply IsS54.set_0 | apply IsS54.set_1 | apply IsS54.set_2) | exact HI229.out)).2⟩)); have n1_ := Aside0.mk (hb); have n2_ := Aside0.mk (hi); clear HI229; clear HB; clear HI230; have HI229 := n0_; have HB := n1_; have HI230 := n2_; clear n0_ n1_ n2_; (try clear hb); (try clear hb2); (try clear hk); (try clear hi)))
                        go_meet
                        case rel => exact ⟨_, ((t239 == t243)), (t240), (t241), (t242), (t244), (t245), (by first | rfl | (simp; done) | (simp [*]; done)), H', ⟨by have := HJ4.out; have := HK2.out; first | omega | exact Nat.le_refl _⟩, ⟨by repeat (first | (with_reducible first | exact HI229.out | apply IsS54.alloc | apply IsS54.drewN | apply IsS54.drew | apply IsS54.set_0 | apply IsS54.set_1 | apply IsS54.set_2) | exact HI229.out)⟩, ⟨by repeat (first | (with_reducible first | exact HI230.out | apply IsS40.alloc | apply IsS40.drewN | apply IsS40.drew | apply IsS40.set_0 | apply IsS40.set_1) | exact HI230.out)⟩, ⟨by repeat (first | (with_reducible first | exact HB.out | apply below_alloc | apply pw_below_drewN | apply below_drew1 | refine below_set ?_ (IsS54.ge HI229.out) | refine below_set ?_ (IsS40.ge HI230.out)) | exact HB.out)⟩⟩
                      · rw [if_neg c20] at H
                        have c20b0 : (((rd_T42 l1 x7_2).f0) == 1) = false := beq_eq_false_iff_ne.mpr c20
                        have c20b1 : (((rd_T42 l1 x7_2).f0) != 1) = true := bne_iff_ne.mpr c20
                        by_cases c25 : ((rd_T42 l1 x7_2).f0) = 2
                        · rw [if_pos c25] at H
                          have c25b0 : (((rd_T42 l1 x7_2).f0) == 2) = true := beq_iff_eq.mpr c25
                          have c25b1 : (((rd_T42 l1 x7_2).f0) != 2) = false := bne_eq_false_iff_eq.mpr c25
                          clear c25
                          replace H := Option.bind_eq_some_iff.mp H
                          obtain ⟨⟨t246, t247, t248, t249⟩, A260, H⟩ := H
                          replace H : ((coppiceref02_Reader_Short.f k2 x231000_2 x231001_2).bind fun bt250 => (coppicelaw02_PackReads.j2 k2 l1 x7_2 (t246 == bt250.1) t247 t248 t249 bt250.2.1 bt250.2.2)) = some r := H
                          have A26 := Aside0.mk A260
                          clear A260
                          replace H := Option.bind_eq_some_iff.mp H
                          obtain ⟨⟨t250, t251, t252⟩, A270, H⟩ := H
                          replace H : (coppicelaw02_PackReads.j2 k2 l1 x7_2 (t246 == t250) t247 t248 t249 t251 t252) = some r := H
                          have A27 := Aside0.mk A270
                          clear A270
                          have H' := Aside0.mk H
                          clear H
                          go_wp2_with (first | ((with_reducible refine gate_callee (f := 18) rfl ?_); refine goesL_ (some 52) rfl rfl Try.func18 (by kernel_rfl) rfl #[.pointer (some ⟨g229, 0, none⟩)] rfl (by (try simp only [List.map_toArray, List.map_cons, List.map_nil]); first | done | rfl | (simp only [List.length_drop, List.length_take]; rfl)) ?_; (with_reducible refine (pack_Reader_Short.calls g229 x230000_2 x230001_2 x230002_2 t246 t247 t248 t249 w _ ?side1 ?side2 A26.out).mono ?_); (case side1 => repeat (first | (with_reducible first | exact HI229.out | apply IsS54.alloc | apply IsS54.drewN | apply IsS54.drew | apply IsS54.set_0 | apply IsS54.set_1 | apply IsS54.set_2) | exact HI229.out)); (case side2 => repeat (first | (with_reducible first | exact HB.out | apply below_alloc | apply pw_below_drewN | apply below_drew1 | refine below_set ?_ (IsS54.ge HI229.out) | refine below_set ?_ (IsS40.ge HI230.out)) | exact HB.out)); rintro e w28 ⟨rfl, hi, hb, hk⟩; refine ⟨_, rfl, ?_⟩; have n0_ := Aside0.mk ((show IsS40 w _ gb230 x231000_2 x231001_2 from ⟨KeepBut.blk hk (show IsS40 w _ gb230 x231000_2 x231001_2 from by repeat (first | (with_reducible first | exact HI230.out | apply IsS40.alloc | apply IsS40.drewN | apply IsS40.drew | apply IsS40.set_0 | apply IsS40.set_1) | exact HI230.out)).1 (IsS54.ne_blk (show IsS54 w _ g229 x230000_2 x230001_2 x230002_2 from by repeat (first | (with_reducible first | exact HI229.out | apply IsS54.alloc | apply IsS54.drewN | apply IsS54.drew | apply IsS54.set_0 | apply IsS54.set_1 | apply IsS54.set_2) | exact HI229.out)) (show IsS40 w _ gb230 x231000_2 x231001_2 from by repeat (first | (with_reducible first | exact HI230.out | apply IsS40.alloc | apply IsS40.drewN | apply IsS40.drew | apply IsS40.set_0 | apply IsS40.set_1) | exact HI230.out)).1 (by decide)).symm (by simp), (show IsS40 w _ gb230 x231000_2 x231001_2 from by repeat (first | (with_reducible first | exact HI230.out | apply IsS40.alloc | apply IsS40.drewN | apply IsS40.drew | apply IsS40.set_0 | apply IsS40.set_1) | exact HI230.out)).2⟩)); have n1_ := Aside0.mk (hb); have n2_ := Aside0.mk (hi); clear HI230; clear HB; clear HI229; have HI230 := n0_; have HB := n1_; have HI229 := n2_; clear n0_ n1_ n2_; (try clear hb); (try clear hb2); (try clear hk); (try clear hi)) | ((with_reducible refine gate_callee (f := 26) rfl ?_); refine goesL_ (some 54) rfl rfl Try.func26 (by kernel_rfl) rfl #[.pointer (some ⟨gb230, 0, none⟩)] rfl (by (try simp only [List.map_toArray, List.map_cons, List.map_nil]); first | done | rfl | (simp only [List.length_drop, List.length_take]; rfl)) ?_; (with_reducible refine (coppiceref02_Reader_Short.calls k2 gb230 x231000_2 x231001_2 t250 t251 t252 w _ ?side1 ?side2 A27.out).mono ?_); (case side1 => repeat (first | (with_reducible first | exact HI230.out | apply IsS40.alloc | apply IsS40.drewN | apply IsS40.drew | apply IsS40.set_0 | apply IsS40.set_1) | exact HI230.out)); (case side2 => repeat (first | (with_reducible first | exact HB.out | apply below_alloc | apply pw_below_drewN | apply below_drew1 | refine below_set ?_ (IsS54.ge HI229.out) | refine below_set ?_ (IsS40.ge HI230.out)) | exact HB.out)); rintro e w29 ⟨rfl, hi, hb, hk⟩; refine ⟨_, rfl, ?_⟩; have n0_ := Aside0.mk ((show IsS54 w _ g229 t247 t248 t249 from ⟨KeepBut.blk hk (show IsS54 w _ g229 t247 t248 t249 from by repeat (first | (with_reducible first | exact HI229.out | apply IsS54.alloc | apply IsS54.drewN | apply IsS54.drew | apply IsS54.set_0 | apply IsS54.set_1 | apply IsS54.set_2) | exact HI229.out)).1 (IsS40.ne_blk (show IsS40 w _ gb230 x231000_2 x231001_2 from by repeat (first | (with_reducible first | exact HI230.out | apply IsS40.alloc | apply IsS40.drewN | apply IsS40.drew | apply IsS40.set_0 | apply IsS40.set_1) | exact HI230.out)) (show IsS54 w _ g229 t247 t248 t249 from by repeat (first | (with_reducible first | exact HI229.out | apply IsS54.alloc | apply IsS54.drewN | apply IsS54.drew | apply IsS54.set_0 | apply IsS54.set_1 | apply IsS54.set_2) | exact HI229.out)).1 (by decide)).symm (by simp), (show IsS54 w _ g229 t247 t248 t249 from by repeat (first | (with_reducible first | exact HI229.out | apply IsS54.alloc | apply IsS54.drewN | apply IsS54.drew | apply IsS54.set_0 | apply IsS54.set_1 | apply IsS54.set_2) | exact HI229.out)).2⟩)); have n1_ := Aside0.mk (hb); have n2_ := Aside0.mk (hi); clear HI229; clear HB; clear HI230; have HI229 := n0_; have HB := n1_; have HI230 := n2_; clear n0_ n1_ n2_; (try clear hb); (try clear hb2); (try clear hk); (try clear hi)))
                          go_meet
                          case rel => exact ⟨_, ((t246 == t250)), (t247), (t248), (t249), (t251), (t252), (by first | rfl | (simp; done) | (simp [*]; done)), H', ⟨by have := HJ4.out; have := HK2.out; first | omega | exact Nat.le_refl _⟩, ⟨by repeat (first | (with_reducible first | exact HI229.out | apply IsS54.alloc | apply IsS54.drewN | apply IsS54.drew | apply IsS54.set_0 | apply IsS54.set_1 | apply IsS54.set_2) | exact HI229.out)⟩, ⟨by repeat (first | (with_reducible first | exact HI230.out | apply IsS40.alloc | apply IsS40.drewN | apply IsS40.drew | apply IsS40.set_0 | apply IsS40.set_1) | exact HI230.out)⟩, ⟨by repeat (first | (with_reducible first | exact HB.out | apply below_alloc | apply pw_below_drewN | apply below_drew1 | refine below_set ?_ (IsS54.ge HI229.out) | refine below_set ?_ (IsS40.ge HI230.out)) | exact HB.out)⟩⟩
                        · rw [if_neg c25] at H
                          have c25b0 : (((rd_T42 l1 x7_2).f0) == 2) = false := beq_eq_false_iff_ne.mpr c25
                          have c25b1 : (((rd_T42 l1 x7_2).f0) != 2) = true := bne_iff_ne.mpr c25
                          by_cases c30 : ((rd_T42 l1 x7_2).f0) = 3
                          · rw [if_pos c30] at H
                            have c30b0 : (((rd_T42 l1 x7_2).f0) == 3) = true := beq_iff_eq.mpr c30
                            have c30b1 : (((rd_T42 l1 x7_2).f0) != 3) = false := bne_eq_false_iff_eq.mpr c30
                            clear c30
                            replace H := Option.bind_eq_some_iff.mp H
                            obtain ⟨⟨t254, t255, t256, t257⟩, A310, H⟩ := H
                            replace H : ((coppiceref02_Reader_Text.f k2 x231000_2 x231001_2 ((rd_T42 l1 x7_2).f1)).bind fun bt259 => (coppicelaw02_PackReads.j2 k2 l1 x7_2 (t254.toList == bt259.1.toList) t255 t256 t257 bt259.2.1 bt259.2.2)) = some r := H
                            have A31 := Aside0.mk A310
                            clear A310
                            replace H := Option.bind_eq_some_iff.mp H
                            obtain ⟨⟨t259, t260, t261⟩, A320, H⟩ := H
                            replace H : (coppicelaw02_PackReads.j2 k2 l1 x7_2 (t254.toList == t259.toList) t255 t256 t257 t260 t261) = some r := H
                            have A32 := Aside0.mk A320
                            clear A320
                            have H' := Aside0.mk H
                            clear H
                            try go_wp2
                            have n0_ := Aside0.mk (IsS54.drew HI229.out)
                            have n1_ := Aside0.mk (IsS40.drew HI230.out)
                            have n2_ := Aside0.mk (below_drew1 HB.out)
                            clear HI229
                            clear HI230
                            clear HB
                            have HI229 := n0_
                            have HI230 := n1_
                            have HB := n2_
                            clear n0_ n1_ n2_
                            have p253 : 0 ≤ (x7_2 : Int) := of_decide_eq_true (by first | (with_reducible assumption) | assumption)
                            have q253 : x7_2 < (l1.length : Int) := of_decide_eq_true (by first | (with_reducible assumption) | assumption)
                            obtain ⟨ad253, e253, hx253_0, hx253_1⟩ := at_T42 HR1.out x7_2 p253 q253
                            have hw253_1 := hx253_1
                            have hw253_0 := hx253_0
                            obtain rfl : ad231 = ad253 := (by injection e253)
                            replace hx253_0 := (HB.out.cell (World.block_lt_of_cell? w _ hx253_0)).trans hx253_0
                            replace hx253_1 := (HB.out.cell (World.block_lt_of_cell? w _ hx253_1)).trans hx253_1
                            replace p253 := eq_true p253
                            replace q253 := eq_true q253
                            have p258 : 0 ≤ (x7_2 : Int) := of_decide_eq_true (by first | (with_reducible assumption) | assumption)
                            have q258 : x7_2 < (l1.length : Int) := of_decide_eq_true (by first | (with_reducible assumption) | assumption)
                            obtain ⟨ad258, e258, hx258_0, hx258_1⟩ := at_T42 HR1.out x7_2 p258 q258
                            have hw258_1 := hx258_1
                            have hw258_0 := hx258_0
                            obtain rfl : ad231 = ad258 := (by injection e258)
                            replace hx258_0 := (HB.out.cell (World.block_lt_of_cell? w _ hx258_0)).trans hx258_0
                            replace hx258_1 := (HB.out.cell (World.block_lt_of_cell? w _ hx258_1)).trans hx258_1
                            replace p258 := eq_true p258
                            replace q258 := eq_true q258
                            refine start_ (n := 16) (S := fun w' => w'.cell? (ad231.add ((x7_2).toNat * 2)) = some (.int .i64 ((rd_T42 l1 x7_2).f0)) ∧ w'.cell? ⟨(ad231.add ((x7_2).toNat * 2)).block, (ad231.add ((x7_2).toNat * 2)).off + 1, none⟩ = some (.int .i64 ((rd_T42 l1 x7_2).f1)) ∧ w'.cell? (ad231.add ((x7_2).toNat * 2)) = some (.int .i64 ((rd_T42 l1 x7_2).f0)) ∧ w'.cell? ⟨(ad231.add ((x7_2).toNat * 2)).block, (ad231.add ((x7_2).toNat * 2)).off + 1, none⟩ = some (.int .i64 ((rd_T42 l1 x7_2).f1))) (ds := []) #[false, false, false, false, false, false, false, false, false, false, false, false, false, false, false, false] (by kernel_rfl) rfl rfl ⟨((HB.out.cell (World.block_lt_of_cell? w _ hw253_0)).trans hw253_0), ((HB.out.cell (World.block_lt_of_cell? w _ hw253_1)).trans hw253_1), ((HB.out.cell (World.block_lt_of_cell? w _ hw258_0)).trans hw258_0), ((HB.out.cell (World.block_lt_of_cell? w _ hw258_1)).trans hw258_1)⟩ (fun hHeld => ?_); refine with_tabW coppicelaw02_PackReads.tab18 coppicelaw02_PackReads.bits18 (fun HT_ HW_ => ?_)
                            generalize wr.drew = w33 at HI229 HI230 HB hx253_0 hx253_1 hx258_0 hx258_1 hHeld ⊢
                            refine pure_ (i := 0) (N := some 58) (v := ?_) (a' := ?_) #[true, false, false, false, false, false, false, false, false, false, false, false, false, false, false, false] rfl rfl (any_of HT_.out (by kernel_rfl)) (fun _ _ _ h => h) (Or.inl ⟨by rfl, ?_⟩) ?_ ?_
                            rotate_left
                            · intro w'
                              go_simp
                              with_reducible rfl
                            rotate_left
                            · simp only [Act.put, List.setIfInBounds_toArray, List.set_cons_zero, List.set_cons_succ, i64_w, i32_w]
                              rfl
                            refine pure_ (i := 1) (N := some 59) (v := ?_) (a' := ?_) #[true, true, false, false, false, false, false, false, false, false, false, false, false, false, false, false] rfl rfl (any_of HT_.out (by kernel_rfl)) (fun _ _ _ h => h) (Or.inl ⟨by rfl, ?_⟩) ?_ ?_
                            rotate_left
                            · intro w'
                              go_simp
                              with_reducible rfl
                            rotate_left
                            · simp only [Act.put, List.setIfInBounds_toArray, List.set_cons_zero, List.set_cons_succ, i64_w, i32_w]
                              rfl
                            refine pure_ (i := 2) (N := some 60) (v := ?_) (a' := ?_) #[true, true, true, false, false, false, false, false, false, false, false, false, false, false, false, false] rfl rfl (any_of HT_.out (by kernel_rfl)) (fun _ _ _ h => h) (Or.inl ⟨by rfl, ?_⟩) ?_ ?_
                            rotate_left
                            · intro w'
                              go_simp
                              with_reducible rfl
                            rotate_left
                            · simp only [Act.put, List.setIfInBounds_toArray, List.set_cons_zero, List.set_cons_succ, i64_w, i32_w]
                              rfl
                            refine pure_ (i := 3) (N := some 61) (v := ?_) (a' := ?_) #[true, true, true, true, false, false, false, false, false, false, false, false, false, false, false, false] rfl rfl (any_of HT_.out (by kernel_rfl)) (fun _ _ _ h => h) (Or.inl ⟨by rfl, ?_⟩) ?_ ?_
                            rotate_left
                            · intro w'
                              go_simp
                              with_reducible rfl
                            rotate_left
                            · simp only [Act.put, List.setIfInBounds_toArray, List.set_cons_zero, List.set_cons_succ, i64_w, i32_w]
                              rfl
                            refine pure_ (i := 4) (N := some 62) (v := ?_) (a' := ?_) #[true, true, true, true, true, false, false, false, false, false, false, false, false, false, false, false] rfl rfl (any_of HT_.out (by kernel_rfl)) (fun _ _ _ h => h) (Or.inl ⟨by rfl, ?_⟩) ?_ ?_
                            rotate_left
                            · intro w'
                              go_simp
                              with_reducible rfl
                            rotate_left
                            · simp only [Act.put, List.setIfInBounds_toArray, List.set_cons_zero, List.set_cons_succ, i64_w, i32_w]
                              rfl
                            refine pure_ (i := 7) (N := some 65) (v := ?_) (a' := ?_) #[true, true, true, true, true, false, false, true, false, false, false, false, false, false, false, false] rfl rfl (any_of HT_.out (by kernel_rfl)) (fun _ _ _ h => h) (Or.inl ⟨by rfl, ?_⟩) ?_ ?_
                            rotate_left
                            · intro w'
                              go_simp
                              with_reducible rfl
                            rotate_left
                            · simp only [Act.put, List.setIfInBounds_toArray, List.set_cons_zero, List.set_cons_succ, i64_w, i32_w]
                              rfl
                            refine pure_ (i := 8) (N := some 66) (v := ?_) (a' := ?_) #[true, true, true, true, true, false, false, true, true, false, false, false, false, false, false, false] rfl rfl (any_of HT_.out (by kernel_rfl)) (fun _ _ _ h => h) (Or.inl ⟨by rfl, ?_⟩) ?_ ?_
                            rotate_left
                            · intro w'
                              go_simp
                              with_reducible rfl
                            rotate_left
                            · simp only [Act.put, List.setIfInBounds_toArray, List.set_cons_zero, List.set_cons_succ, i64_w, i32_w]
                              rfl
                            refine pure_ (i := 9) (N := some 67) (v := ?_) (a' := ?_) #[true, true, true, true, true, false, false, true, true, true, false, false, false, false, false, false] rfl rfl (any_of HT_.out (by kernel_rfl)) (fun _ _ _ h => h) (Or.inl ⟨by rfl, ?_⟩) ?_ ?_
                            rotate_left
                            · intro w'
                              go_simp
                              with_reducible rfl
                            rotate_left
                            · simp only [Act.put, List.setIfInBounds_toArray, List.set_cons_zero, List.set_cons_succ, i64_w, i32_w]
                              rfl
                            refine pure_ (i := 10) (N := some 68) (v := ?_) (a' := ?_) #[true, true, true, true, true, false, false, true, true, true, true, false, false, false, false, false] rfl rfl (any_of HT_.out (by kernel_rfl)) (fun _ _ _ h => h) (Or.inl ⟨by rfl, ?_⟩) ?_ ?_
                            rotate_left
                            · intro w'
                              go_simp
                              with_reducible rfl
                            rotate_left
                            · simp only [Act.put, List.setIfInBounds_toArray, List.set_cons_zero, List.set_cons_succ, i64_w, i32_w]
                              rfl
                            refine pure_ (i := 11) (N := some 69) (v := ?_) (a' := ?_) #[true, true, true, true, true, false, false, true, true, true, true, true, false, false, false, false] rfl rfl (any_of HT_.out (by kernel_rfl)) (fun _ _ _ h => h) (Or.inl ⟨by rfl, ?_⟩) ?_ ?_
                            rotate_left
                            · intro w'
                              go_simp
                              with_reducible rfl
                            rotate_left
                            · simp only [Act.put, List.setIfInBounds_toArray, List.set_cons_zero, List.set_cons_succ, i64_w, i32_w]
                              rfl
                            refine take_ (i := 5) (N := some 63) (v := ?_) (a' := ?_) #[true, true, true, true, true, true, false, true, true, true, true, true, false, false, false, false] rfl rfl (take_ofW HT_.out HW_.out (by kernel_rfl)) (fun _ _ _ h => h) (Or.inl ⟨by rfl, ?_⟩) hHeld ?_ ?_
                            rotate_left
                            · rintro w' ⟨s0, s1, s2, s3⟩
                              go_simp
                              with_reducible rfl
                            rotate_left
                            · simp only [Act.put, List.setIfInBounds_toArray, List.set_cons_zero, List.set_cons_succ, i64_w, i32_w]
                              rfl
                            refine take_ (i := 12) (N := some 70) (v := ?_) (a' := ?_) #[true, true, true, true, true, true, false, true, true, true, true, true, true, false, false, false] rfl rfl (take_ofW HT_.out HW_.out (by kernel_rfl)) (fun _ _ _ h => h) (Or.inl ⟨by rfl, ?_⟩) hHeld ?_ ?_
                            rotate_left
                            · rintro w' ⟨s0, s1, s2, s3⟩
                              go_simp
                              with_reducible rfl
                            rotate_left
                            · simp only [Act.put, List.setIfInBounds_toArray, List.set_cons_zero, List.set_cons_succ, i64_w, i32_w]
                              rfl
                            refine one_ (i := 6) (N := some 64) #[true, true, true, true, true, true, true, true, true, true, true, true, true, false, false, false] rfl rfl (one_of HT_.out (by kernel_rfl)) (by decide) (fun K hK => ?_)
                            refine goes_ Try.func21 (by kernel_rfl) rfl #[.pointer (some ⟨g229, 0, none⟩), .int .i64 ((rd_T42 l1 x7_2).f1)] (by rfl) rfl rfl (by (try simp only [List.map_toArray, List.map_cons, List.map_nil]); first | done | rfl | (simp only [List.length_drop, List.length_take]; rfl)) ?_
                            with_reducible refine (pack_Reader_Text.calls k2 g229 x230000_2 x230001_2 x230002_2 ((rd_T42 l1 x7_2).f1) t254 t255 t256 t257 w _ ?side1 ?side2 A31.out).mono ?_
                            (case side1 => repeat (first | (with_reducible first | exact HI229.out | apply IsS54.alloc | apply IsS54.drewN | apply IsS54.drew | apply IsS54.set_0 | apply IsS54.set_1 | apply IsS54.set_2) | exact HI229.out))
                            (case side2 => repeat (first | (with_reducible first | exact HB.out | apply below_alloc | apply pw_below_drewN | apply below_drew1 | refine below_set ?_ (IsS54.ge HI229.out) | refine below_set ?_ (IsS40.ge HI230.out)) | exact HB.out))
                            rintro e w34 ⟨rfl, hi, hb, hk⟩
                            refine ⟨_, rfl, ?_⟩
                            have n0_ := Aside0.mk ((show IsS40 w _ gb230 x231000_2 x231001_2 from ⟨KeepBut.blk hk (show IsS40 w _ gb230 x231000_2 x231001_2 from by repeat (first | (with_reducible first | exact HI230.out | apply IsS40.alloc | apply IsS40.drewN | apply IsS40.drew | apply IsS40.set_0 | apply IsS40.set_1) | exact HI230.out)).1 (IsS54.ne_blk (show IsS54 w _ g229 x230000_2 x230001_2 x230002_2 from by repeat (first | (with_reducible first | exact HI229.out | apply IsS54.alloc | apply IsS54.drewN | apply IsS54.drew | apply IsS54.set_0 | apply IsS54.set_1 | apply IsS54.set_2) | exact HI229.out)) (show IsS40 w _ gb230 x231000_2 x231001_2 from by repeat (first | (with_reducible first | exact HI230.out | apply IsS40.alloc | apply IsS40.drewN | apply IsS40.drew | apply IsS40.set_0 | apply IsS40.set_1) | exact HI230.out)).1 (by decide)).symm (by simp), (show IsS40 w _ gb230 x231000_2 x231001_2 from by repeat (first | (with_reducible first | exact HI230.out | apply IsS40.alloc | apply IsS40.drewN | apply IsS40.drew | apply IsS40.set_0 | apply IsS40.set_1) | exact HI230.out)).2⟩))
                            have n1_ := Aside0.mk (hb)
                            have n2_ := Aside0.mk (hi)
                            clear HI230
                            clear HB
                            clear HI229
                            have HI230 := n0_
                            have HB := n1_
                            have HI229 := n2_
                            clear n0_ n1_ n2_
                            (try clear hb)
                            (try clear hb2)
                            (try clear hk)
                            (try clear hi)
                            refine hK.out _ _ ⟨((HB.out.cell (World.block_lt_of_cell? w _ hw253_0)).trans hw253_0), ((HB.out.cell (World.block_lt_of_cell? w _ hw253_1)).trans hw253_1), ((HB.out.cell (World.block_lt_of_cell? w _ hw258_0)).trans hw258_0), ((HB.out.cell (World.block_lt_of_cell? w _ hw258_1)).trans hw258_1)⟩ (fun hHeld => ?_)
                            clear hK K
                            refine norm_ (a' := ?_) ?_ ?_
                            rotate_left
                            · show Act.put _ (some 64) _ = _
                              simp only [Act.put, List.setIfInBounds_toArray, List.set_cons_zero, List.set_cons_succ, i64_w, i32_w]
                              rfl
                            refine one_ (i := 13) (N := some 71) #[true, true, true, true, true, true, true, true, true, true, true, true, true, true, false, false] rfl rfl (one_of HT_.out (by kernel_rfl)) (by decide) (fun K hK => ?_)
                            refine goes_ Try.func27 (by kernel_rfl) rfl #[.pointer (some ⟨gb230, 0, none⟩), .int .i64 ((rd_T42 l1 x7_2).f1)] (by rfl) rfl rfl (by (try simp only [List.map_toArray, List.map_cons, List.map_nil]); first | done | rfl | (simp only [List.length_drop, List.length_take]; rfl)) ?_
                            with_reducible refine (coppiceref02_Reader_Text.calls k2 gb230 x231000_2 x231001_2 ((rd_T42 l1 x7_2).f1) t259 t260 t261 w _ ?side1 ?side2 A32.out).mono ?_
                            (case side1 => repeat (first | (with_reducible first | exact HI230.out | apply IsS40.alloc | apply IsS40.drewN | apply IsS40.drew | apply IsS40.set_0 | apply IsS40.set_1) | exact HI230.out))
                            (case side2 => repeat (first | (with_reducible first | exact HB.out | apply below_alloc | apply pw_below_drewN | apply below_drew1 | refine below_set ?_ (IsS54.ge HI229.out) | refine below_set ?_ (IsS40.ge HI230.out)) | exact HB.out))
                            rintro e w35 ⟨rfl, hi, hb, hk⟩
                            refine ⟨_, rfl, ?_⟩
                            have n0_ := Aside0.mk ((show IsS54 w _ g229 t255 t256 t257 from ⟨KeepBut.blk hk (show IsS54 w _ g229 t255 t256 t257 from by repeat (first | (with_reducible first | exact HI229.out | apply IsS54.alloc | apply IsS54.drewN | apply IsS54.drew | apply IsS54.set_0 | apply IsS54.set_1 | apply IsS54.set_2) | exact HI229.out)).1 (IsS40.ne_blk (show IsS40 w _ gb230 x231000_2 x231001_2 from by repeat (first | (with_reducible first | exact HI230.out | apply IsS40.alloc | apply IsS40.drewN | apply IsS40.drew | apply IsS40.set_0 | apply IsS40.set_1) | exact HI230.out)) (show IsS54 w _ g229 t255 t256 t257 from by repeat (first | (with_reducible first | exact HI229.out | apply IsS54.alloc | apply IsS54.drewN | apply IsS54.drew | apply IsS54.set_0 | apply IsS54.set_1 | apply IsS54.set_2) | exact HI229.out)).1 (by decide)).symm (by simp), (show IsS54 w _ g229 t255 t256 t257 from by repeat (first | (with_reducible first | exact HI229.out | apply IsS54.alloc | apply IsS54.drewN | apply IsS54.drew | apply IsS54.set_0 | apply IsS54.set_1 | apply IsS54.set_2) | exact HI229.out)).2⟩))
                            have n1_ := Aside0.mk (hb)
                            have n2_ := Aside0.mk (hi)
                            clear HI229
                            clear HB
                            clear HI230
                            have HI229 := n0_
                            have HB := n1_
                            have HI230 := n2_
                            clear n0_ n1_ n2_
                            (try clear hb)
                            (try clear hb2)
                            (try clear hk)
                            (try clear hi)
                            refine hK.out _ _ ⟨((HB.out.cell (World.block_lt_of_cell? w _ hw253_0)).trans hw253_0), ((HB.out.cell (World.block_lt_of_cell? w _ hw253_1)).trans hw253_1), ((HB.out.cell (World.block_lt_of_cell? w _ hw258_0)).trans hw258_0), ((HB.out.cell (World.block_lt_of_cell? w _ hw258_1)).trans hw258_1)⟩ (fun hHeld => ?_)
                            clear hK K
                            refine norm_ (a' := ?_) ?_ ?_
                            rotate_left
                            · show Act.put _ (some 71) _ = _
                              simp only [Act.put, List.setIfInBounds_toArray, List.set_cons_zero, List.set_cons_succ, i64_w, i32_w]
                              rfl
                            refine pure_ (i := 14) (N := some 72) (v := ?_) (a' := ?_) #[true, true, true, true, true, true, true, true, true, true, true, true, true, true, true, false] rfl rfl (any_of HT_.out (by kernel_rfl)) (fun _ _ _ h => h) (Or.inl ⟨by rfl, ?_⟩) ?_ ?_
                            rotate_left
                            · intro w'
                              go_simp
                              with_reducible rfl
                            rotate_left
                            · simp only [Act.put, List.setIfInBounds_toArray, List.set_cons_zero, List.set_cons_succ, i64_w, i32_w]
                              rfl
                            refine pure_ (i := 15) (N := some 8) (v := ?_) (a' := ?_) #[true, true, true, true, true, true, true, true, true, true, true, true, true, true, true, true] rfl rfl (any_of HT_.out (by kernel_rfl)) (fun _ _ _ h => h) (Or.inl ⟨by rfl, ?_⟩) ?_ ?_
                            rotate_left
                            · intro w'
                              go_simp
                              with_reducible rfl
                            rotate_left
                            · simp only [Act.put, List.setIfInBounds_toArray, List.set_cons_zero, List.set_cons_succ, i64_w, i32_w]
                              rfl
                            refine done_ (done_of HT_.out (by kernel_rfl)) ?_
                            try go_wp2
                            go_meet
                            case rel => exact ⟨_, ((t254.toList == t259.toList)), (t255), (t256), (t257), (t260), (t261), (by first | rfl | (simp; done) | (simp [*]; done)), H', ⟨by have := HJ4.out; have := HK2.out; first | omega | exact Nat.le_refl _⟩, ⟨by repeat (first | (with_reducible first | exact HI229.out | apply IsS54.alloc | apply IsS54.drewN | apply IsS54.drew | apply IsS54.set_0 | apply IsS54.set_1 | apply IsS54.set_2) | exact HI229.out)⟩, ⟨by repeat (first | (with_reducible first | exact HI230.out | apply IsS40.alloc | apply IsS40.drewN | apply IsS40.drew | apply IsS40.set_0 | apply IsS40.set_1) | exact HI230.out)⟩, ⟨by repeat (first | (with_reducible first | exact HB.out | apply below_alloc | apply pw_below_drewN | apply below_drew1 | refine below_set ?_ (IsS54.ge HI229.out) | refine below_set ?_ (IsS40.ge HI230.out)) | exact HB.out)⟩⟩
                          · rw [if_neg c30] at H
                            have c30b0 : (((rd_T42 l1 x7_2).f0) == 3) = false := beq_eq_false_iff_ne.mpr c30
                            have c30b1 : (((rd_T42 l1 x7_2).f0) != 3) = true := bne_iff_ne.mpr c30
                            have H' := Aside0.mk H
                            clear H
                            go_wp2
                            go_meet
                            case rel => exact ⟨_, (true), (x230000_2), (x230001_2), (x230002_2), (x231000_2), (x231001_2), (by first | rfl | (simp; done) | (simp [*]; done)), H', ⟨by have := HJ4.out; have := HK2.out; first | omega | exact Nat.le_refl _⟩, ⟨by repeat (first | (with_reducible first | exact HI229.out | apply IsS54.alloc | apply IsS54.drewN | apply IsS54.drew | apply IsS54.set_0 | apply IsS54.set_1 | apply IsS54.set_2) | exact HI229.out)⟩, ⟨by repeat (first | (with_reducible first | exact HI230.out | apply IsS40.alloc | apply IsS40.drewN | apply IsS40.drew | apply IsS40.set_0 | apply IsS40.set_1) | exact HI230.out)⟩, ⟨by repeat (first | (with_reducible first | exact HB.out | apply below_alloc | apply pw_below_drewN | apply below_drew1 | refine below_set ?_ (IsS54.ge HI229.out) | refine below_set ?_ (IsS40.ge HI230.out)) | exact HB.out)⟩⟩
                  case rest =>
                    clear HC14
                    try clear c1
                    try clear c2
                    try clear p2
                    try clear q2
                    try clear hx2
                    try clear c3
                    try clear c4
                    try clear c6
                    try clear c7
                    try clear c7b0
                    try clear c7b1
                    try clear c8
                    try clear c10
                    try clear c12
                    try clear c12b0
                    try clear c13
                    try clear c13b0
                    try clear c15
                    try clear c15b0
                    try clear c15b1
                    try clear c17
                    try clear c18
                    try clear c20
                    try clear c20b0
                    try clear c20b1
                    try clear c21
                    try clear c22
                    try clear c23
                    try clear p23
                    try clear q23
                    try clear hx23
                    try clear c24
                    try clear c25
                    try clear c25b0
                    try clear c25b1
                    try clear p25
                    try clear q25
                    try clear hx25
                    try clear c26
                    try clear c27
                    try clear c30
                    try clear c30b0
                    try clear c30b1
                    try clear hx231_0
                    try clear hx231_1
                    try clear hx253_0
                    try clear hx253_1
                    try clear hx258_0
                    try clear hx258_1
                    try clear p2
                    try clear p231
                    try clear p253
                    try clear p258
                    try clear q231
                    try clear q253
                    try clear q258
                    obtain ⟨kq, x8_13, x230000_13, x230001_13, x230002_13, x231000_13, x231001_13, rfl, HA, HJ13, HI229, HI230, HB⟩ := hcut
                    cases kq with
                    | zero => exact absurd HA.out (by simp [coppicelaw02_PackReads.j2])
                    | succ kj13 =>
                      have H := HA.out
                      clear HA
                      simp only [coppicelaw02_PackReads.j2] at H
                      by_cases c36 : x8_13 = true
                      · subst c36
                        have H1 : ((pack_Reader_Left.f x230000_13 x230001_13 x230002_13).bind fun bt262 => ((coppiceref02_Reader_Left.f x231000_13 x231001_13).bind fun bt266 => (if bt262.1 = bt266.1 then ((pack_Reader_Err.f bt262.2.1 bt262.2.2.1 bt262.2.2.2).bind fun bt269 => (if bt269.1 = x231001_13 then ((pack_Reader_End.f bt269.2.1 bt269.2.2.1 bt269.2.2.2).bind fun bt273 => ((coppiceref02_Reader_End.f x231000_13 x231001_13).bind fun bt277 => (if bt273.1 = bt277.1 then (coppicelaw02_PackReads.l0 kj13 l1 (wrap64 (x7_2 + 1)) bt273.2.1 bt273.2.2.1 bt273.2.2.2 x231000_13 x231001_13) else (some false)))) else (some false))) else (some false)))) = some r := by rw [if_pos rfl] at H; exact H
                        clear H
                        have H := H1
                        clear H1
                        replace H := Option.bind_eq_some_iff.mp H
                        obtain ⟨⟨t262, t263, t264, t265⟩, A370, H⟩ := H
                        replace H : ((coppiceref02_Reader_Left.f x231000_13 x231001_13).bind fun bt266 => (if t262 = bt266.1 then ((pack_Reader_Err.f t263 t264 t265).bind fun bt269 => (if bt269.1 = x231001_13 then ((pack_Reader_End.f bt269.2.1 bt269.2.2.1 bt269.2.2.2).bind fun bt273 => ((coppiceref02_Reader_End.f x231000_13 x231001_13).bind fun bt277 => (if bt273.1 = bt277.1 then (coppicelaw02_PackReads.l0 kj13 l1 (wrap64 (x7_2 + 1)) bt273.2.1 bt273.2.2.1 bt273.2.2.2 x231000_13 x231001_13) else (some false)))) else (some false))) else (some false))) = some r := H
                        have A37 := Aside0.mk A370
                        clear A370
                        replace H := Option.bind_eq_some_iff.mp H
                        obtain ⟨⟨t266, t267, t268⟩, A380, H⟩ := H
                        replace H : (if t262 = t266 then ((pack_Reader_Err.f t263 t264 t265).bind fun bt269 => (if bt269.1 = x231001_13 then ((pack_Reader_End.f bt269.2.1 bt269.2.2.1 bt269.2.2.2).bind fun bt273 => ((coppiceref02_Reader_End.f x231000_13 x231001_13).bind fun bt277 => (if bt273.1 = bt277.1 then (coppicelaw02_PackReads.l0 kj13 l1 (wrap64 (x7_2 + 1)) bt273.2.1 bt273.2.2.1 bt273.2.2.2 x231000_13 x231001_13) else (some false)))) else (some false))) else (some false)) = some r := H
                        have A38 := Aside0.mk A380
                        clear A380
                        have A38q := Aside0.mk (show t267 = x231000_13 ∧ t268 = x231001_13 from by have h_ := A38.out; simp only [coppiceref02_Reader_Left.f] at h_; (repeat' split at h_) <;> cases h_ <;> exact ⟨rfl, rfl⟩)
                        by_cases c39 : t262 = t266
                        · rw [if_pos c39] at H
                          have c39b0 : (t262 == t266) = true := beq_iff_eq.mpr c39
                          have c39b1 : (t262 != t266) = false := bne_eq_false_iff_eq.mpr c39
                          clear c39
                          replace H := Option.bind_eq_some_iff.mp H
                          obtain ⟨⟨t269, t270, t271, t272⟩, A400, H⟩ := H
                          replace H : (if t269 = x231001_13 then ((pack_Reader_End.f t270 t271 t272).bind fun bt273 => ((coppiceref02_Reader_End.f x231000_13 x231001_13).bind fun bt277 => (if bt273.1 = bt277.1 then (coppicelaw02_PackReads.l0 kj13 l1 (wrap64 (x7_2 + 1)) bt273.2.1 bt273.2.2.1 bt273.2.2.2 x231000_13 x231001_13) else (some false)))) else (some false)) = some r := H
                          have A40 := Aside0.mk A400
                          clear A400
                          by_cases c41 : t269 = x231001_13
                          · rw [if_pos c41] at H
                            have c41b0 : (t269 == x231001_13) = true := beq_iff_eq.mpr c41
                            have c41b1 : (t269 != x231001_13) = false := bne_eq_false_iff_eq.mpr c41
                            clear c41
                            replace H := Option.bind_eq_some_iff.mp H
                            obtain ⟨⟨t273, t274, t275, t276⟩, A420, H⟩ := H
                            replace H : ((coppiceref02_Reader_End.f x231000_13 x231001_13).bind fun bt277 => (if t273 = bt277.1 then (coppicelaw02_PackReads.l0 kj13 l1 (wrap64 (x7_2 + 1)) t274 t275 t276 x231000_13 x231001_13) else (some false))) = some r := H
                            have A42 := Aside0.mk A420
                            clear A420
                            replace H := Option.bind_eq_some_iff.mp H
                            obtain ⟨⟨t277, t278, t279⟩, A430, H⟩ := H
                            replace H : (if t273 = t277 then (coppicelaw02_PackReads.l0 kj13 l1 (wrap64 (x7_2 + 1)) t274 t275 t276 x231000_13 x231001_13) else (some false)) = some r := H
                            have A43 := Aside0.mk A430
                            clear A430
                            have A43q := Aside0.mk (show t278 = x231000_13 ∧ t279 = x231001_13 from by have h_ := A43.out; simp only [coppiceref02_Reader_End.f] at h_; (repeat' split at h_) <;> cases h_ <;> exact ⟨rfl, rfl⟩)
                            by_cases c44 : t273 = t277
                            · rw [if_pos c44] at H
                              have c44b0 : (t273 == t277) = true := beq_iff_eq.mpr c44
                              have c44b1 : (t273 != t277) = false := bne_eq_false_iff_eq.mpr c44
                              clear c44
                              have H' := Aside0.mk H
                              clear H
                              try go_wp2
                              have n0_ := Aside0.mk (IsS54.drew HI229.out)
                              have n1_ := Aside0.mk (IsS40.drew HI230.out)
                              have n2_ := Aside0.mk (below_drew1 HB.out)
                              clear HI229
                              clear HI230
                              clear HB
                              have HI229 := n0_
                              have HI230 := n1_
                              have HB := n2_
                              clear n0_ n1_ n2_
                              refine start_ (n := 25) (S := fun w' => w'.cell? ⟨gb230, 0, none⟩ = some (.string x231000_13) ∧ w'.cell? ⟨gb230, 1, none⟩ = some (.int .i64 x231001_13)) (ds := []) #[false, false, false, false, false, false, false, false, false, false, false, false, false, false, false, false, false, false, false, false, false, false, false, false, false] (by kernel_rfl) rfl rfl ⟨(blk_cell (Aside0.mk (show IsS40 w _ gb230 x231000_13 x231001_13 from HI230.out).1).out 0).trans rfl, (blk_cell (Aside0.mk (show IsS40 w _ gb230 x231000_13 x231001_13 from HI230.out).1).out 1).trans rfl⟩ (fun hHeld => ?_); refine with_tabW coppicelaw02_PackReads.tab19 coppicelaw02_PackReads.bits19 (fun HT_ HW_ => ?_)
                              generalize wc.drew = w45 at HI229 HI230 HB hHeld ⊢
                              refine pure_ (i := 0) (N := some 73) (v := ?_) (a' := ?_) #[true, false, false, false, false, false, false, false, false, false, false, false, false, false, false, false, false, false, false, false, false, false, false, false, false] rfl rfl (any_of HT_.out (by kernel_rfl)) (fun _ _ _ h => h) (Or.inl ⟨by rfl, ?_⟩) ?_ ?_
                              rotate_left
                              · intro w'
                                go_simp
                                with_reducible rfl
                              rotate_left
                              · simp only [Act.put, List.setIfInBounds_toArray, List.set_cons_zero, List.set_cons_succ, i64_w, i32_w]
                                rfl
                              refine pure_ (i := 1) (N := some 74) (v := ?_) (a' := ?_) #[true, true, false, false, false, false, false, false, false, false, false, false, false, false, false, false, false, false, false, false, false, false, false, false, false] rfl rfl (any_of HT_.out (by kernel_rfl)) (fun _ _ _ h => h) (Or.inl ⟨by rfl, ?_⟩) ?_ ?_
                              rotate_left
                              · intro w'
                                go_simp
                                with_reducible rfl
                              rotate_left
                              · simp only [Act.put, List.setIfInBounds_toArray, List.set_cons_zero, List.set_cons_succ, i64_w, i32_w]
                                rfl
                              refine pure_ (i := 2) (N := some 75) (v := ?_) (a' := ?_) #[true, true, true, false, false, false, false, false, false, false, false, false, false, false, false, false, false, false, false, false, false, false, false, false, false] rfl rfl (any_of HT_.out (by kernel_rfl)) (fun _ _ _ h => h) (Or.inl ⟨by rfl, ?_⟩) ?_ ?_
                              rotate_left
                              · intro w'
                                go_simp
                                with_reducible rfl
                              rotate_left
                              · simp only [Act.put, List.setIfInBounds_toArray, List.set_cons_zero, List.set_cons_succ, i64_w, i32_w]
                                rfl
                              refine pure_ (i := 3) (N := some 76) (v := ?_) (a' := ?_) #[true, true, true, true, false, false, false, false, false, false, false, false, false, false, false, false, false, false, false, false, false, false, false, false, false] rfl rfl (any_of HT_.out (by kernel_rfl)) (fun _ _ _ h => h) (Or.inl ⟨by rfl, ?_⟩) ?_ ?_
                              rotate_left
                              · intro w'
                                go_simp
                                with_reducible rfl
                              rotate_left
                              · simp only [Act.put, List.setIfInBounds_toArray, List.set_cons_zero, List.set_cons_succ, i64_w, i32_w]
                                rfl
                              refine pure_ (i := 5) (N := some 78) (v := ?_) (a' := ?_) #[true, true, true, true, false, true, false, false, false, false, false, false, false, false, false, false, false, false, false, false, false, false, false, false, false] rfl rfl (any_of HT_.out (by kernel_rfl)) (fun _ _ _ h => h) (Or.inl ⟨by rfl, ?_⟩) ?_ ?_
                              rotate_left
                              · intro w'
                                go_simp
                                with_reducible rfl
                              rotate_left
                              · simp only [Act.put, List.setIfInBounds_toArray, List.set_cons_zero, List.set_cons_succ, i64_w, i32_w]
                                rfl
                              refine one_ (i := 4) (N := some 77) #[true, true, true, true, true, true, false, false, false, false, false, false, false, false, false, false, false, false, false, false, false, false, false, false, false] rfl rfl (one_of HT_.out (by kernel_rfl)) (by decide) (fun K hK => ?_)
                              refine goes_ Try.func20 (by kernel_rfl) rfl #[.pointer (some ⟨g229, 0, none⟩)] (by rfl) rfl rfl (by (try simp only [List.map_toArray, List.map_cons, List.map_nil]); first | done | rfl | (simp only [List.length_drop, List.length_take]; rfl)) ?_
                              with_reducible refine (pack_Reader_Left.calls g229 x230000_13 x230001_13 x230002_13 t262 t263 t264 t265 w _ ?side1 ?side2 A37.out).mono ?_
                              (case side1 => repeat (first | (with_reducible first | exact HI229.out | apply IsS54.alloc | apply IsS54.drewN | apply IsS54.drew | apply IsS54.set_0 | apply IsS54.set_1 | apply IsS54.set_2) | exact HI229.out))
                              (case side2 => repeat (first | (with_reducible first | exact HB.out | apply below_alloc | apply pw_below_drewN | apply below_drew1 | refine below_set ?_ (IsS54.ge HI229.out) | refine below_set ?_ (IsS40.ge HI230.out)) | exact HB.out))
                              rintro e w46 ⟨rfl, hi, hb, hk⟩
                              refine ⟨_, rfl, ?_⟩
                              have n0_ := Aside0.mk ((show IsS40 w _ gb230 x231000_13 x231001_13 from ⟨KeepBut.blk hk (show IsS40 w _ gb230 x231000_13 x231001_13 from by repeat (first | (with_reducible first | exact HI230.out | apply IsS40.alloc | apply IsS40.drewN | apply IsS40.drew | apply IsS40.set_0 | apply IsS40.set_1) | exact HI230.out)).1 (IsS54.ne_blk (show IsS54 w _ g229 x230000_13 x230001_13 x230002_13 from by repeat (first | (with_reducible first | exact HI229.out | apply IsS54.alloc | apply IsS54.drewN | apply IsS54.drew | apply IsS54.set_0 | apply IsS54.set_1 | apply IsS54.set_2) | exact HI229.out)) (show IsS40 w _ gb230 x231000_13 x231001_13 from by repeat (first | (with_reducible first | exact HI230.out | apply IsS40.alloc | apply IsS40.drewN | apply IsS40.drew | apply IsS40.set_0 | apply IsS40.set_1) | exact HI230.out)).1 (by decide)).symm (by simp), (show IsS40 w _ gb230 x231000_13 x231001_13 from by repeat (first | (with_reducible first | exact HI230.out | apply IsS40.alloc | apply IsS40.drewN | apply IsS40.drew | apply IsS40.set_0 | apply IsS40.set_1) | exact HI230.out)).2⟩))
                              have n1_ := Aside0.mk (hb)
                              have n2_ := Aside0.mk (hi)
                              clear HI230
                              clear HB
                              clear HI229
                              have HI230 := n0_
                              have HB := n1_
                              have HI229 := n2_
                              clear n0_ n1_ n2_
                              (try clear hb)
                              (try clear hb2)
                              (try clear hk)
                              (try clear hi)
                              refine hK.out _ _ ⟨(blk_cell (Aside0.mk (show IsS40 w _ gb230 x231000_13 x231001_13 from HI230.out).1).out 0).trans rfl, (blk_cell (Aside0.mk (show IsS40 w _ gb230 x231000_13 x231001_13 from HI230.out).1).out 1).trans rfl⟩ (fun hHeld => ?_)
                              clear hK K
                              refine norm_ (a' := ?_) ?_ ?_
                              rotate_left
                              · show Act.put _ (some 77) _ = _
                                simp only [Act.put, List.setIfInBounds_toArray, List.set_cons_zero, List.set_cons_succ, i64_w, i32_w]
                                rfl
                              refine one_ (i := 6) (N := some 79) #[true, true, true, true, true, true, true, false, false, false, false, false, false, false, false, false, false, false, false, false, false, false, false, false, false] rfl rfl (one_of HT_.out (by kernel_rfl)) (by decide) (fun K hK => ?_)
                              refine goes_ Try.func28 (by kernel_rfl) rfl #[.pointer (some ⟨gb230, 0, none⟩)] (by rfl) rfl rfl (by (try simp only [List.map_toArray, List.map_cons, List.map_nil]); first | done | rfl | (simp only [List.length_drop, List.length_take]; rfl)) ?_
                              with_reducible refine (coppiceref02_Reader_Left.calls gb230 x231000_13 x231001_13 t266 t267 t268 w _ ?side1 ?side2 A38.out).mono ?_
                              (case side1 => repeat (first | (with_reducible first | exact HI230.out | apply IsS40.alloc | apply IsS40.drewN | apply IsS40.drew | apply IsS40.set_0 | apply IsS40.set_1) | exact HI230.out))
                              (case side2 => repeat (first | (with_reducible first | exact HB.out | apply below_alloc | apply pw_below_drewN | apply below_drew1 | refine below_set ?_ (IsS54.ge HI229.out) | refine below_set ?_ (IsS40.ge HI230.out)) | exact HB.out))
                              rintro e w47 ⟨rfl, hi, hb, hk⟩
                              refine ⟨_, rfl, ?_⟩
                              (try rw [A38q.out.1] at hi); (try rw [A38q.out.2] at hi)
                              have n0_ := Aside0.mk ((show IsS54 w _ g229 t263 t264 t265 from ⟨KeepBut.blk hk (show IsS54 w _ g229 t263 t264 t265 from by repeat (first | (with_reducible first | exact HI229.out | apply IsS54.alloc | apply IsS54.drewN | apply IsS54.drew | apply IsS54.set_0 | apply IsS54.set_1 | apply IsS54.set_2) | exact HI229.out)).1 (IsS40.ne_blk (show IsS40 w _ gb230 x231000_13 x231001_13 from by repeat (first | (with_reducible first | exact HI230.out | apply IsS40.alloc | apply IsS40.drewN | apply IsS40.drew | apply IsS40.set_0 | apply IsS40.set_1) | exact HI230.out)) (show IsS54 w _ g229 t263 t264 t265 from by repeat (first | (with_reducible first | exact HI229.out | apply IsS54.alloc | apply IsS54.drewN | apply IsS54.drew | apply IsS54.set_0 | apply IsS54.set_1 | apply IsS54.set_2) | exact HI229.out)).1 (by decide)).symm (by simp), (show IsS54 w _ g229 t263 t264 t265 from by repeat (first | (with_reducible first | exact HI229.out | apply IsS54.alloc | apply IsS54.drewN | apply IsS54.drew | apply IsS54.set_0 | apply IsS54.set_1 | apply IsS54.set_2) | exact HI229.out)).2⟩))
                              have n1_ := Aside0.mk (hb)
                              have n2_ := Aside0.mk (hi)
                              clear HI229
                              clear HB
                              clear HI230
                              have HI229 := n0_
                              have HB := n1_
                              have HI230 := n2_
                              clear n0_ n1_ n2_
                              (try clear hb)
                              (try clear hb2)
                              (try clear hk)
                              (try clear hi)
                              refine hK.out _ _ ⟨(blk_cell (Aside0.mk (show IsS40 w _ gb230 x231000_13 x231001_13 from HI230.out).1).out 0).trans rfl, (blk_cell (Aside0.mk (show IsS40 w _ gb230 x231000_13 x231001_13 from HI230.out).1).out 1).trans rfl⟩ (fun hHeld => ?_)
                              clear hK K
                              refine norm_ (a' := ?_) ?_ ?_
                              rotate_left
                              · show Act.put _ (some 79) _ = _
                                simp only [Act.put, List.setIfInBounds_toArray, List.set_cons_zero, List.set_cons_succ, i64_w, i32_w]
                                rfl
                              refine pure_ (i := 7) (N := some 80) (v := ?_) (a' := ?_) #[true, true, true, true, true, true, true, true, false, false, false, false, false, false, false, false, false, false, false, false, false, false, false, false, false] rfl rfl (any_of HT_.out (by kernel_rfl)) (fun _ _ _ h => h) (Or.inl ⟨by rfl, ?_⟩) ?_ ?_
                              rotate_left
                              · intro w'
                                go_simp
                                with_reducible rfl
                              rotate_left
                              · simp only [Act.put, List.setIfInBounds_toArray, List.set_cons_zero, List.set_cons_succ, i64_w, i32_w]
                                rfl
                              refine pure_ (i := 8) (N := some 81) (v := ?_) (a' := ?_) #[true, true, true, true, true, true, true, true, true, false, false, false, false, false, false, false, false, false, false, false, false, false, false, false, false] rfl rfl (any_of HT_.out (by kernel_rfl)) (fun _ _ _ h => h) (Or.inl ⟨by rfl, ?_⟩) ?_ ?_
                              rotate_left
                              · intro w'
                                go_simp
                                with_reducible rfl
                              rotate_left
                              · simp only [Act.put, List.setIfInBounds_toArray, List.set_cons_zero, List.set_cons_succ, i64_w, i32_w]
                                rfl
                              refine pure_ (i := 9) (N := some 82) (v := ?_) (a' := ?_) #[true, true, true, true, true, true, true, true, true, true, false, false, false, false, false, false, false, false, false, false, false, false, false, false, false] rfl rfl (any_of HT_.out (by kernel_rfl)) (fun _ _ _ h => h) (Or.inl ⟨by rfl, ?_⟩) ?_ ?_
                              rotate_left
                              · intro w'
                                go_simp
                                with_reducible rfl
                              rotate_left
                              · simp only [Act.put, List.setIfInBounds_toArray, List.set_cons_zero, List.set_cons_succ, i64_w, i32_w]
                                rfl
                              refine pure_ (i := 10) (N := some 83) (v := ?_) (a' := ?_) #[true, true, true, true, true, true, true, true, true, true, true, false, false, false, false, false, false, false, false, false, false, false, false, false, false] rfl rfl (any_of HT_.out (by kernel_rfl)) (fun _ _ _ h => h) (Or.inl ⟨by rfl, ?_⟩) ?_ ?_
                              rotate_left
                              · intro w'
                                go_simp
                                with_reducible rfl
                              rotate_left
                              · simp only [Act.put, List.setIfInBounds_toArray, List.set_cons_zero, List.set_cons_succ, i64_w, i32_w]
                                rfl
                              refine pure_ (i := 12) (N := some 85) (v := ?_) (a' := ?_) #[true, true, true, true, true, true, true, true, true, true, true, false, true, false, false, false, false, false, false, false, false, false, false, false, false] rfl rfl (any_of HT_.out (by kernel_rfl)) (fun _ _ _ h => h) (Or.inl ⟨by rfl, ?_⟩) ?_ ?_
                              rotate_left
                              · intro w'
                                go_simp
                                with_reducible rfl
                              rotate_left
                              · simp only [Act.put, List.setIfInBounds_toArray, List.set_cons_zero, List.set_cons_succ, i64_w, i32_w]
                                rfl
                              refine pure_ (i := 13) (N := some 86) (v := ?_) (a' := ?_) #[true, true, true, true, true, true, true, true, true, true, true, false, true, true, false, false, false, false, false, false, false, false, false, false, false] rfl rfl (any_of HT_.out (by kernel_rfl)) (fun _ _ _ h => h) (Or.inl ⟨by rfl, ?_⟩) ?_ ?_
                              rotate_left
                              · intro w'
                                go_simp
                                with_reducible rfl
                              rotate_left
                              · simp only [Act.put, List.setIfInBounds_toArray, List.set_cons_zero, List.set_cons_succ, i64_w, i32_w]
                                rfl
                              refine pure_ (i := 14) (N := some 87) (v := ?_) (a' := ?_) #[true, true, true, true, true, true, true, true, true, true, true, false, true, true, true, false, false, false, false, false, false, false, false, false, false] rfl rfl (any_of HT_.out (by kernel_rfl)) (fun _ _ _ h => h) (Or.inl ⟨by rfl, ?_⟩) ?_ ?_
                              rotate_left
                              · intro w'
                                go_simp
                                with_reducible rfl
                              rotate_left
                              · simp only [Act.put, List.setIfInBounds_toArray, List.set_cons_zero, List.set_cons_succ, i64_w, i32_w]
                                rfl
                              refine take_ (i := 15) (N := some 88) (v := ?_) (a' := ?_) #[true, true, true, true, true, true, true, true, true, true, true, false, true, true, true, true, false, false, false, false, false, false, false, false, false] rfl rfl (take_ofW HT_.out HW_.out (by kernel_rfl)) (fun _ _ _ h => h) (Or.inl ⟨by rfl, ?_⟩) hHeld ?_ ?_
                              rotate_left
                              · rintro w' ⟨s0, s1⟩
                                go_simp
                                with_reducible rfl
                              rotate_left
                              · simp only [Act.put, List.setIfInBounds_toArray, List.set_cons_zero, List.set_cons_succ, i64_w, i32_w]
                                rfl
                              refine one_ (i := 11) (N := some 84) #[true, true, true, true, true, true, true, true, true, true, true, true, true, true, true, true, false, false, false, false, false, false, false, false, false] rfl rfl (one_of HT_.out (by kernel_rfl)) (by decide) (fun K hK => ?_)
                              refine goes_ Try.func19 (by kernel_rfl) rfl #[.pointer (some ⟨g229, 0, none⟩)] (by rfl) rfl rfl (by (try simp only [List.map_toArray, List.map_cons, List.map_nil]); first | done | rfl | (simp only [List.length_drop, List.length_take]; rfl)) ?_
                              with_reducible refine (pack_Reader_Err.calls g229 t263 t264 t265 t269 t270 t271 t272 w _ ?side1 ?side2 A40.out).mono ?_
                              (case side1 => repeat (first | (with_reducible first | exact HI229.out | apply IsS54.alloc | apply IsS54.drewN | apply IsS54.drew | apply IsS54.set_0 | apply IsS54.set_1 | apply IsS54.set_2) | exact HI229.out))
                              (case side2 => repeat (first | (with_reducible first | exact HB.out | apply below_alloc | apply pw_below_drewN | apply below_drew1 | refine below_set ?_ (IsS54.ge HI229.out) | refine below_set ?_ (IsS40.ge HI230.out)) | exact HB.out))
                              rintro e w48 ⟨rfl, hi, hb, hk⟩
                              refine ⟨_, rfl, ?_⟩
                              have n0_ := Aside0.mk ((show IsS40 w _ gb230 x231000_13 x231001_13 from ⟨KeepBut.blk hk (show IsS40 w _ gb230 x231000_13 x231001_13 from by repeat (first | (with_reducible first | exact HI230.out | apply IsS40.alloc | apply IsS40.drewN | apply IsS40.drew | apply IsS40.set_0 | apply IsS40.set_1) | exact HI230.out)).1 (IsS54.ne_blk (show IsS54 w _ g229 t263 t264 t265 from by repeat (first | (with_reducible first | exact HI229.out | apply IsS54.alloc | apply IsS54.drewN | apply IsS54.drew | apply IsS54.set_0 | apply IsS54.set_1 | apply IsS54.set_2) | exact HI229.out)) (show IsS40 w _ gb230 x231000_13 x231001_13 from by repeat (first | (with_reducible first | exact HI230.out | apply IsS40.alloc | apply IsS40.drewN | apply IsS40.drew | apply IsS40.set_0 | apply IsS40.set_1) | exact HI230.out)).1 (by decide)).symm (by simp), (show IsS40 w _ gb230 x231000_13 x231001_13 from by repeat (first | (with_reducible first | exact HI230.out | apply IsS40.alloc | apply IsS40.drewN | apply IsS40.drew | apply IsS40.set_0 | apply IsS40.set_1) | exact HI230.out)).2⟩))
                              have n1_ := Aside0.mk (hb)
                              have n2_ := Aside0.mk (hi)
                              clear HI230
                              clear HB
                              clear HI229
                              have HI230 := n0_
                              have HB := n1_
                              have HI229 := n2_
                              clear n0_ n1_ n2_
                              (try clear hb)
                              (try clear hb2)
                              (try clear hk)
                              (try clear hi)
                              refine hK.out _ _ ⟨(blk_cell (Aside0.mk (show IsS40 w _ gb230 x231000_13 x231001_13 from HI230.out).1).out 0).trans rfl, (blk_cell (Aside0.mk (show IsS40 w _ gb230 x231000_13 x231001_13 from HI230.out).1).out 1).trans rfl⟩ (fun hHeld => ?_)
                              clear hK K
                              refine norm_ (a' := ?_) ?_ ?_
                              rotate_left
                              · show Act.put _ (some 84) _ = _
                                simp only [Act.put, List.setIfInBounds_toArray, List.set_cons_zero, List.set_cons_succ, i64_w, i32_w]
                                rfl
                              refine pure_ (i := 16) (N := some 89) (v := ?_) (a' := ?_) #[true, true, true, true, true, true, true, true, true, true, true, true, true, true, true, true, true, false, false, false, false, false, false, false, false] rfl rfl (any_of HT_.out (by kernel_rfl)) (fun _ _ _ h => h) (Or.inl ⟨by rfl, ?_⟩) ?_ ?_
                              rotate_left
                              · intro w'
                                go_simp
                                with_reducible rfl
                              rotate_left
                              · simp only [Act.put, List.setIfInBounds_toArray, List.set_cons_zero, List.set_cons_succ, i64_w, i32_w]
                                rfl
                              refine pure_ (i := 17) (N := some 90) (v := ?_) (a' := ?_) #[true, true, true, true, true, true, true, true, true, true, true, true, true, true, true, true, true, true, false, false, false, false, false, false, false] rfl rfl (any_of HT_.out (by kernel_rfl)) (fun _ _ _ h => h) (Or.inl ⟨by rfl, ?_⟩) ?_ ?_
                              rotate_left
                              · intro w'
                                go_simp
                                with_reducible rfl
                              rotate_left
                              · simp only [Act.put, List.setIfInBounds_toArray, List.set_cons_zero, List.set_cons_succ, i64_w, i32_w]
                                rfl
                              refine pure_ (i := 18) (N := some 91) (v := ?_) (a' := ?_) #[true, true, true, true, true, true, true, true, true, true, true, true, true, true, true, true, true, true, true, false, false, false, false, false, false] rfl rfl (any_of HT_.out (by kernel_rfl)) (fun _ _ _ h => h) (Or.inl ⟨by rfl, ?_⟩) ?_ ?_
                              rotate_left
                              · intro w'
                                go_simp
                                with_reducible rfl
                              rotate_left
                              · simp only [Act.put, List.setIfInBounds_toArray, List.set_cons_zero, List.set_cons_succ, i64_w, i32_w]
                                rfl
                              refine pure_ (i := 19) (N := some 92) (v := ?_) (a' := ?_) #[true, true, true, true, true, true, true, true, true, true, true, true, true, true, true, true, true, true, true, true, false, false, false, false, false] rfl rfl (any_of HT_.out (by kernel_rfl)) (fun _ _ _ h => h) (Or.inl ⟨by rfl, ?_⟩) ?_ ?_
                              rotate_left
                              · intro w'
                                go_simp
                                with_reducible rfl
                              rotate_left
                              · simp only [Act.put, List.setIfInBounds_toArray, List.set_cons_zero, List.set_cons_succ, i64_w, i32_w]
                                rfl
                              refine pure_ (i := 21) (N := some 94) (v := ?_) (a' := ?_) #[true, true, true, true, true, true, true, true, true, true, true, true, true, true, true, true, true, true, true, true, false, true, false, false, false] rfl rfl (any_of HT_.out (by kernel_rfl)) (fun _ _ _ h => h) (Or.inl ⟨by rfl, ?_⟩) ?_ ?_
                              rotate_left
                              · intro w'
                                go_simp
                                with_reducible rfl
                              rotate_left
                              · simp only [Act.put, List.setIfInBounds_toArray, List.set_cons_zero, List.set_cons_succ, i64_w, i32_w]
                                rfl
                              refine one_ (i := 20) (N := some 93) #[true, true, true, true, true, true, true, true, true, true, true, true, true, true, true, true, true, true, true, true, true, true, false, false, false] rfl rfl (one_of HT_.out (by kernel_rfl)) (by decide) (fun K hK => ?_)
                              refine goes_ Try.func29 (by kernel_rfl) rfl #[.pointer (some ⟨g229, 0, none⟩)] (by rfl) rfl rfl (by (try simp only [List.map_toArray, List.map_cons, List.map_nil]); first | done | rfl | (simp only [List.length_drop, List.length_take]; rfl)) ?_
                              with_reducible refine (pack_Reader_End.calls g229 t270 t271 t272 t273 t274 t275 t276 w _ ?side1 ?side2 A42.out).mono ?_
                              (case side1 => repeat (first | (with_reducible first | exact HI229.out | apply IsS54.alloc | apply IsS54.drewN | apply IsS54.drew | apply IsS54.set_0 | apply IsS54.set_1 | apply IsS54.set_2) | exact HI229.out))
                              (case side2 => repeat (first | (with_reducible first | exact HB.out | apply below_alloc | apply pw_below_drewN | apply below_drew1 | refine below_set ?_ (IsS54.ge HI229.out) | refine below_set ?_ (IsS40.ge HI230.out)) | exact HB.out))
                              rintro e w49 ⟨rfl, hi, hb, hk⟩
                              refine ⟨_, rfl, ?_⟩
                              have n0_ := Aside0.mk ((show IsS40 w _ gb230 x231000_13 x231001_13 from ⟨KeepBut.blk hk (show IsS40 w _ gb230 x231000_13 x231001_13 from by repeat (first | (with_reducible first | exact HI230.out | apply IsS40.alloc | apply IsS40.drewN | apply IsS40.drew | apply IsS40.set_0 | apply IsS40.set_1) | exact HI230.out)).1 (IsS54.ne_blk (show IsS54 w _ g229 t270 t271 t272 from by repeat (first | (with_reducible first | exact HI229.out | apply IsS54.alloc | apply IsS54.drewN | apply IsS54.drew | apply IsS54.set_0 | apply IsS54.set_1 | apply IsS54.set_2) | exact HI229.out)) (show IsS40 w _ gb230 x231000_13 x231001_13 from by repeat (first | (with_reducible first | exact HI230.out | apply IsS40.alloc | apply IsS40.drewN | apply IsS40.drew | apply IsS40.set_0 | apply IsS40.set_1) | exact HI230.out)).1 (by decide)).symm (by simp), (show IsS40 w _ gb230 x231000_13 x231001_13 from by repeat (first | (with_reducible first | exact HI230.out | apply IsS40.alloc | apply IsS40.drewN | apply IsS40.drew | apply IsS40.set_0 | apply IsS40.set_1) | exact HI230.out)).2⟩))
                              have n1_ := Aside0.mk (hb)
                              have n2_ := Aside0.mk (hi)
                              clear HI230
                              clear HB
                              clear HI229
                              have HI230 := n0_
                              have HB := n1_
                              have HI229 := n2_
                              clear n0_ n1_ n2_
                              (try clear hb)
                              (try clear hb2)
                              (try clear hk)
                              (try clear hi)
                              refine hK.out _ _ ⟨(blk_cell (Aside0.mk (show IsS40 w _ gb230 x231000_13 x231001_13 from HI230.out).1).out 0).trans rfl, (blk_cell (Aside0.mk (show IsS40 w _ gb230 x231000_13 x231001_13 from HI230.out).1).out 1).trans rfl⟩ (fun hHeld => ?_)
                              clear hK K
                              refine norm_ (a' := ?_) ?_ ?_
                              rotate_left
                              · show Act.put _ (some 93) _ = _
                                simp only [Act.put, List.setIfInBounds_toArray, List.set_cons_zero, List.set_cons_succ, i64_w, i32_w]
                                rfl
                              refine one_ (i := 22) (N := some 95) #[true, true, true, true, true, true, true, true, true, true, true, true, true, true, true, true, true, true, true, true, true, true, true, false, false] rfl rfl (one_of HT_.out (by kernel_rfl)) (by decide) (fun K hK => ?_)
                              refine goes_ Try.func30 (by kernel_rfl) rfl #[.pointer (some ⟨gb230, 0, none⟩)] (by rfl) rfl rfl (by (try simp only [List.map_toArray, List.map_cons, List.map_nil]); first | done | rfl | (simp only [List.length_drop, List.length_take]; rfl)) ?_
                              with_reducible refine (coppiceref02_Reader_End.calls gb230 x231000_13 x231001_13 t277 t278 t279 w _ ?side1 ?side2 A43.out).mono ?_
                              (case side1 => repeat (first | (with_reducible first | exact HI230.out | apply IsS40.alloc | apply IsS40.drewN | apply IsS40.drew | apply IsS40.set_0 | apply IsS40.set_1) | exact HI230.out))
                              (case side2 => repeat (first | (with_reducible first | exact HB.out | apply below_alloc | apply pw_below_drewN | apply below_drew1 | refine below_set ?_ (IsS54.ge HI229.out) | refine below_set ?_ (IsS40.ge HI230.out)) | exact HB.out))
                              rintro e w50 ⟨rfl, hi, hb, hk⟩
                              refine ⟨_, rfl, ?_⟩
                              (try rw [A43q.out.1] at hi); (try rw [A43q.out.2] at hi)
                              have n0_ := Aside0.mk ((show IsS54 w _ g229 t274 t275 t276 from ⟨KeepBut.blk hk (show IsS54 w _ g229 t274 t275 t276 from by repeat (first | (with_reducible first | exact HI229.out | apply IsS54.alloc | apply IsS54.drewN | apply IsS54.drew | apply IsS54.set_0 | apply IsS54.set_1 | apply IsS54.set_2) | exact HI229.out)).1 (IsS40.ne_blk (show IsS40 w _ gb230 x231000_13 x231001_13 from by repeat (first | (with_reducible first | exact HI230.out | apply IsS40.alloc | apply IsS40.drewN | apply IsS40.drew | apply IsS40.set_0 | apply IsS40.set_1) | exact HI230.out)) (show IsS54 w _ g229 t274 t275 t276 from by repeat (first | (with_reducible first | exact HI229.out | apply IsS54.alloc | apply IsS54.drewN | apply IsS54.drew | apply IsS54.set_0 | apply IsS54.set_1 | apply IsS54.set_2) | exact HI229.out)).1 (by decide)).symm (by simp), (show IsS54 w _ g229 t274 t275 t276 from by repeat (first | (with_reducible first | exact HI229.out | apply IsS54.alloc | apply IsS54.drewN | apply IsS54.drew | apply IsS54.set_0 | apply IsS54.set_1 | apply IsS54.set_2) | exact HI229.out)).2⟩))
                              have n1_ := Aside0.mk (hb)
                              have n2_ := Aside0.mk (hi)
                              clear HI229
                              clear HB
                              clear HI230
                              have HI229 := n0_
                              have HB := n1_
                              have HI230 := n2_
                              clear n0_ n1_ n2_
                              (try clear hb)
                              (try clear hb2)
                              (try clear hk)
                              (try clear hi)
                              refine hK.out _ _ ⟨(blk_cell (Aside0.mk (show IsS40 w _ gb230 x231000_13 x231001_13 from HI230.out).1).out 0).trans rfl, (blk_cell (Aside0.mk (show IsS40 w _ gb230 x231000_13 x231001_13 from HI230.out).1).out 1).trans rfl⟩ (fun hHeld => ?_)
                              clear hK K
                              refine norm_ (a' := ?_) ?_ ?_
                              rotate_left
                              · show Act.put _ (some 95) _ = _
                                simp only [Act.put, List.setIfInBounds_toArray, List.set_cons_zero, List.set_cons_succ, i64_w, i32_w]
                                rfl
                              refine pure_ (i := 23) (N := some 96) (v := ?_) (a' := ?_) #[true, true, true, true, true, true, true, true, true, true, true, true, true, true, true, true, true, true, true, true, true, true, true, true, false] rfl rfl (any_of HT_.out (by kernel_rfl)) (fun _ _ _ h => h) (Or.inl ⟨by rfl, ?_⟩) ?_ ?_
                              rotate_left
                              · intro w'
                                go_simp
                                with_reducible rfl
                              rotate_left
                              · simp only [Act.put, List.setIfInBounds_toArray, List.set_cons_zero, List.set_cons_succ, i64_w, i32_w]
                                rfl
                              refine pure_ (i := 24) (N := some 97) (v := ?_) (a' := ?_) #[true, true, true, true, true, true, true, true, true, true, true, true, true, true, true, true, true, true, true, true, true, true, true, true, true] rfl rfl (any_of HT_.out (by kernel_rfl)) (fun _ _ _ h => h) (Or.inl ⟨by rfl, ?_⟩) ?_ ?_
                              rotate_left
                              · intro w'
                                go_simp
                                with_reducible rfl
                              rotate_left
                              · simp only [Act.put, List.setIfInBounds_toArray, List.set_cons_zero, List.set_cons_succ, i64_w, i32_w]
                                rfl
                              refine done_ (done_of HT_.out (by kernel_rfl)) ?_
                              try go_wp2
                              go_roundg kj13
                              case measure => have := HJ4.out; have := HK2.out; have := HJ13.out; omega
                              case rel => exact ⟨(wrap64 (x7_2 + 1)), (t274), (t275), (t276), (x231000_13), (x231001_13), (by first | rfl | (simp; done) | (simp [*]; done)), H', ⟨by have := HJ4.out; have := HK2.out; have := HJ13.out; omega⟩, ⟨by repeat (first | (with_reducible first | exact HI229.out | apply IsS54.alloc | apply IsS54.drewN | apply IsS54.drew | apply IsS54.set_0 | apply IsS54.set_1 | apply IsS54.set_2) | exact HI229.out)⟩, ⟨by repeat (first | (with_reducible first | exact HI230.out | apply IsS40.alloc | apply IsS40.drewN | apply IsS40.drew | apply IsS40.set_0 | apply IsS40.set_1) | exact HI230.out)⟩, ⟨by repeat (first | (with_reducible first | exact HB.out | apply below_alloc | apply pw_below_drewN | apply below_drew1 | refine below_set ?_ (IsS54.ge HI229.out) | refine below_set ?_ (IsS40.ge HI230.out)) | exact HB.out)⟩⟩
                            · rw [if_neg c44] at H
                              have c44b0 : (t273 == t277) = false := beq_eq_false_iff_ne.mpr c44
                              have c44b1 : (t273 != t277) = true := bne_iff_ne.mpr c44
                              obtain rfl := Option.some.inj H
                              try go_wp2
                              have n0_ := Aside0.mk (IsS54.drew HI229.out)
                              have n1_ := Aside0.mk (IsS40.drew HI230.out)
                              have n2_ := Aside0.mk (below_drew1 HB.out)
                              clear HI229
                              clear HI230
                              clear HB
                              have HI229 := n0_
                              have HI230 := n1_
                              have HB := n2_
                              clear n0_ n1_ n2_
                              refine start_ (n := 25) (S := fun w' => w'.cell? ⟨gb230, 0, none⟩ = some (.string x231000_13) ∧ w'.cell? ⟨gb230, 1, none⟩ = some (.int .i64 x231001_13)) (ds := []) #[false, false, false, false, false, false, false, false, false, false, false, false, false, false, false, false, false, false, false, false, false, false, false, false, false] (by kernel_rfl) rfl rfl ⟨(blk_cell (Aside0.mk (show IsS40 w _ gb230 x231000_13 x231001_13 from HI230.out).1).out 0).trans rfl, (blk_cell (Aside0.mk (show IsS40 w _ gb230 x231000_13 x231001_13 from HI230.out).1).out 1).trans rfl⟩ (fun hHeld => ?_); refine with_tabW coppicelaw02_PackReads.tab19 coppicelaw02_PackReads.bits19 (fun HT_ HW_ => ?_)
                              generalize wc.drew = w51 at HI229 HI230 HB hHeld ⊢
                              refine pure_ (i := 0) (N := some 73) (v := ?_) (a' := ?_) #[true, false, false, false, false, false, false, false, false, false, false, false, false, false, false, false, false, false, false, false, false, false, false, false, false] rfl rfl (any_of HT_.out (by kernel_rfl)) (fun _ _ _ h => h) (Or.inl ⟨by rfl, ?_⟩) ?_ ?_
                              rotate_left
                              · intro w'
                                go_simp
                                with_reducible rfl
                              rotate_left
                              · simp only [Act.put, List.setIfInBounds_toArray, List.set_cons_zero, List.set_cons_succ, i64_w, i32_w]
                                rfl
                              refine pure_ (i := 1) (N := some 74) (v := ?_) (a' := ?_) #[true, true, false, false, false, false, false, false, false, false, false, false, false, false, false, false, false, false, false, false, false, false, false, false, false] rfl rfl (any_of HT_.out (by kernel_rfl)) (fun _ _ _ h => h) (Or.inl ⟨by rfl, ?_⟩) ?_ ?_
                              rotate_left
                              · intro w'
                                go_simp
                                with_reducible rfl
                              rotate_left
                              · simp only [Act.put, List.setIfInBounds_toArray, List.set_cons_zero, List.set_cons_succ, i64_w, i32_w]
                                rfl
                              refine pure_ (i := 2) (N := some 75) (v := ?_) (a' := ?_) #[true, true, true, false, false, false, false, false, false, false, false, false, false, false, false, false, false, false, false, false, false, false, false, false, false] rfl rfl (any_of HT_.out (by kernel_rfl)) (fun _ _ _ h => h) (Or.inl ⟨by rfl, ?_⟩) ?_ ?_
                              rotate_left
                              · intro w'
                                go_simp
                                with_reducible rfl
                              rotate_left
                              · simp only [Act.put, List.setIfInBounds_toArray, List.set_cons_zero, List.set_cons_succ, i64_w, i32_w]
                                rfl
                              refine pure_ (i := 3) (N := some 76) (v := ?_) (a' := ?_) #[true, true, true, true, false, false, false, false, false, false, false, false, false, false, false, false, false, false, false, false, false, false, false, false, false] rfl rfl (any_of HT_.out (by kernel_rfl)) (fun _ _ _ h => h) (Or.inl ⟨by rfl, ?_⟩) ?_ ?_
                              rotate_left
                              · intro w'
                                go_simp
                                with_reducible rfl
                              rotate_left
                              · simp only [Act.put, List.setIfInBounds_toArray, List.set_cons_zero, List.set_cons_succ, i64_w, i32_w]
                                rfl
                              refine pure_ (i := 5) (N := some 78) (v := ?_) (a' := ?_) #[true, true, true, true, false, true, false, false, false, false, false, false, false, false, false, false, false, false, false, false, false, false, false, false, false] rfl rfl (any_of HT_.out (by kernel_rfl)) (fun _ _ _ h => h) (Or.inl ⟨by rfl, ?_⟩) ?_ ?_
                              rotate_left
                              · intro w'
                                go_simp
                                with_reducible rfl
                              rotate_left
                              · simp only [Act.put, List.setIfInBounds_toArray, List.set_cons_zero, List.set_cons_succ, i64_w, i32_w]
                                rfl
                              refine one_ (i := 4) (N := some 77) #[true, true, true, true, true, true, false, false, false, false, false, false, false, false, false, false, false, false, false, false, false, false, false, false, false] rfl rfl (one_of HT_.out (by kernel_rfl)) (by decide) (fun K hK => ?_)
                              refine goes_ Try.func20 (by kernel_rfl) rfl #[.pointer (some ⟨g229, 0, none⟩)] (by rfl) rfl rfl (by (try simp only [List.map_toArray, List.map_cons, List.map_nil]); first | done | rfl | (simp only [List.length_drop, List.length_take]; rfl)) ?_
                              with_reducible refine (pack_Reader_Left.calls g229 x230000_13 x230001_13 x230002_13 t262 t263 t264 t265 w _ ?side1 ?side2 A37.out).mono ?_
                              (case side1 => repeat (first | (with_reducible first | exact HI229.out | apply IsS54.alloc | apply IsS54.drewN | apply IsS54.drew | apply IsS54.set_0 | apply IsS54.set_1 | apply IsS54.set_2) | exact HI229.out))
                              (case side2 => repeat (first | (with_reducible first | exact HB.out | apply below_alloc | apply pw_below_drewN | apply below_drew1 | refine below_set ?_ (IsS54.ge HI229.out) | refine below_set ?_ (IsS40.ge HI230.out)) | exact HB.out))
                              rintro e w52 ⟨rfl, hi, hb, hk⟩
                              refine ⟨_, rfl, ?_⟩
                              have n0_ := Aside0.mk ((show IsS40 w _ gb230 x231000_13 x231001_13 from ⟨KeepBut.blk hk (show IsS40 w _ gb230 x231000_13 x231001_13 from by repeat (first | (with_reducible first | exact HI230.out | apply IsS40.alloc | apply IsS40.drewN | apply IsS40.drew | apply IsS40.set_0 | apply IsS40.set_1) | exact HI230.out)).1 (IsS54.ne_blk (show IsS54 w _ g229 x230000_13 x230001_13 x230002_13 from by repeat (first | (with_reducible first | exact HI229.out | apply IsS54.alloc | apply IsS54.drewN | apply IsS54.drew | apply IsS54.set_0 | apply IsS54.set_1 | apply IsS54.set_2) | exact HI229.out)) (show IsS40 w _ gb230 x231000_13 x231001_13 from by repeat (first | (with_reducible first | exact HI230.out | apply IsS40.alloc | apply IsS40.drewN | apply IsS40.drew | apply IsS40.set_0 | apply IsS40.set_1) | exact HI230.out)).1 (by decide)).symm (by simp), (show IsS40 w _ gb230 x231000_13 x231001_13 from by repeat (first | (with_reducible first | exact HI230.out | apply IsS40.alloc | apply IsS40.drewN | apply IsS40.drew | apply IsS40.set_0 | apply IsS40.set_1) | exact HI230.out)).2⟩))
                              have n1_ := Aside0.mk (hb)
                              have n2_ := Aside0.mk (hi)
                              clear HI230
                              clear HB
                              clear HI229
                              have HI230 := n0_
                              have HB := n1_
                              have HI229 := n2_
                              clear n0_ n1_ n2_
                              (try clear hb)
                              (try clear hb2)
                              (try clear hk)
                              (try clear hi)
                              refine hK.out _ _ ⟨(blk_cell (Aside0.mk (show IsS40 w _ gb230 x231000_13 x231001_13 from HI230.out).1).out 0).trans rfl, (blk_cell (Aside0.mk (show IsS40 w _ gb230 x231000_13 x231001_13 from HI230.out).1).out 1).trans rfl⟩ (fun hHeld => ?_)
                              clear hK K
                              refine norm_ (a' := ?_) ?_ ?_
                              rotate_left
                              · show Act.put _ (some 77) _ = _
                                simp only [Act.put, List.setIfInBounds_toArray, List.set_cons_zero, List.set_cons_succ, i64_w, i32_w]
                                rfl
                              refine one_ (i := 6) (N := some 79) #[true, true, true, true, true, true, true, false, false, false, false, false, false, false, false, false, false, false, false, false, false, false, false, false, false] rfl rfl (one_of HT_.out (by kernel_rfl)) (by decide) (fun K hK => ?_)
                              refine goes_ Try.func28 (by kernel_rfl) rfl #[.pointer (some ⟨gb230, 0, none⟩)] (by rfl) rfl rfl (by (try simp only [List.map_toArray, List.map_cons, List.map_nil]); first | done | rfl | (simp only [List.length_drop, List.length_take]; rfl)) ?_
                              with_reducible refine (coppiceref02_Reader_Left.calls gb230 x231000_13 x231001_13 t266 t267 t268 w _ ?side1 ?side2 A38.out).mono ?_
                              (case side1 => repeat (first | (with_reducible first | exact HI230.out | apply IsS40.alloc | apply IsS40.drewN | apply IsS40.drew | apply IsS40.set_0 | apply IsS40.set_1) | exact HI230.out))
                              (case side2 => repeat (first | (with_reducible first | exact HB.out | apply below_alloc | apply pw_below_drewN | apply below_drew1 | refine below_set ?_ (IsS54.ge HI229.out) | refine below_set ?_ (IsS40.ge HI230.out)) | exact HB.out))
                              rintro e w53 ⟨rfl, hi, hb, hk⟩
                              refine ⟨_, rfl, ?_⟩
                              (try rw [A38q.out.1] at hi); (try rw [A38q.out.2] at hi)
                              have n0_ := Aside0.mk ((show IsS54 w _ g229 t263 t264 t265 from ⟨KeepBut.blk hk (show IsS54 w _ g229 t263 t264 t265 from by repeat (first | (with_reducible first | exact HI229.out | apply IsS54.alloc | apply IsS54.drewN | apply IsS54.drew | apply IsS54.set_0 | apply IsS54.set_1 | apply IsS54.set_2) | exact HI229.out)).1 (IsS40.ne_blk (show IsS40 w _ gb230 x231000_13 x231001_13 from by repeat (first | (with_reducible first | exact HI230.out | apply IsS40.alloc | apply IsS40.drewN | apply IsS40.drew | apply IsS40.set_0 | apply IsS40.set_1) | exact HI230.out)) (show IsS54 w _ g229 t263 t264 t265 from by repeat (first | (with_reducible first | exact HI229.out | apply IsS54.alloc | apply IsS54.drewN | apply IsS54.drew | apply IsS54.set_0 | apply IsS54.set_1 | apply IsS54.set_2) | exact HI229.out)).1 (by decide)).symm (by simp), (show IsS54 w _ g229 t263 t264 t265 from by repeat (first | (with_reducible first | exact HI229.out | apply IsS54.alloc | apply IsS54.drewN | apply IsS54.drew | apply IsS54.set_0 | apply IsS54.set_1 | apply IsS54.set_2) | exact HI229.out)).2⟩))
                              have n1_ := Aside0.mk (hb)
                              have n2_ := Aside0.mk (hi)
                              clear HI229
                              clear HB
                              clear HI230
                              have HI229 := n0_
                              have HB := n1_
                              have HI230 := n2_
                              clear n0_ n1_ n2_
                              (try clear hb)
                              (try clear hb2)
                              (try clear hk)
                              (try clear hi)
                              refine hK.out _ _ ⟨(blk_cell (Aside0.mk (show IsS40 w _ gb230 x231000_13 x231001_13 from HI230.out).1).out 0).trans rfl, (blk_cell (Aside0.mk (show IsS40 w _ gb230 x231000_13 x231001_13 from HI230.out).1).out 1).trans rfl⟩ (fun hHeld => ?_)
                              clear hK K
                              refine norm_ (a' := ?_) ?_ ?_
                              rotate_left
                              · show Act.put _ (some 79) _ = _
                                simp only [Act.put, List.setIfInBounds_toArray, List.set_cons_zero, List.set_cons_succ, i64_w, i32_w]
                                rfl
                              refine pure_ (i := 7) (N := some 80) (v := ?_) (a' := ?_) #[true, true, true, true, true, true, true, true, false, false, false, false, false, false, false, false, false, false, false, false, false, false, false, false, false] rfl rfl (any_of HT_.out (by kernel_rfl)) (fun _ _ _ h => h) (Or.inl ⟨by rfl, ?_⟩) ?_ ?_
                              rotate_left
                              · intro w'
                                go_simp
                                with_reducible rfl
                              rotate_left
                              · simp only [Act.put, List.setIfInBounds_toArray, List.set_cons_zero, List.set_cons_succ, i64_w, i32_w]
                                rfl
                              refine pure_ (i := 8) (N := some 81) (v := ?_) (a' := ?_) #[true, true, true, true, true, true, true, true, true, false, false, false, false, false, false, false, false, false, false, false, false, false, false, false, false] rfl rfl (any_of HT_.out (by kernel_rfl)) (fun _ _ _ h => h) (Or.inl ⟨by rfl, ?_⟩) ?_ ?_
                              rotate_left
                              · intro w'
                                go_simp
                                with_reducible rfl
                              rotate_left
                              · simp only [Act.put, List.setIfInBounds_toArray, List.set_cons_zero, List.set_cons_succ, i64_w, i32_w]
                                rfl
                              refine pure_ (i := 9) (N := some 82) (v := ?_) (a' := ?_) #[true, true, true, true, true, true, true, true, true, true, false, false, false, false, false, false, false, false, false, false, false, false, false, false, false] rfl rfl (any_of HT_.out (by kernel_rfl)) (fun _ _ _ h => h) (Or.inl ⟨by rfl, ?_⟩) ?_ ?_
                              rotate_left
                              · intro w'
                                go_simp
                                with_reducible rfl
                              rotate_left
                              · simp only [Act.put, List.setIfInBounds_toArray, List.set_cons_zero, List.set_cons_succ, i64_w, i32_w]
                                rfl
                              refine pure_ (i := 10) (N := some 83) (v := ?_) (a' := ?_) #[true, true, true, true, true, true, true, true, true, true, true, false, false, false, false, false, false, false, false, false, false, false, false, false, false] rfl rfl (any_of HT_.out (by kernel_rfl)) (fun _ _ _ h => h) (Or.inl ⟨by rfl, ?_⟩) ?_ ?_
                              rotate_left
                              · intro w'
                                go_simp
                                with_reducible rfl
                              rotate_left
                              · simp only [Act.put, List.setIfInBounds_toArray, List.set_cons_zero, List.set_cons_succ, i64_w, i32_w]
                                rfl
                              refine pure_ (i := 12) (N := some 85) (v := ?_) (a' := ?_) #[true, true, true, true, true, true, true, true, true, true, true, false, true, false, false, false, false, false, false, false, false, false, false, false, false] rfl rfl (any_of HT_.out (by kernel_rfl)) (fun _ _ _ h => h) (Or.inl ⟨by rfl, ?_⟩) ?_ ?_
                              rotate_left
                              · intro w'
                                go_simp
                                with_reducible rfl
                              rotate_left
                              · simp only [Act.put, List.setIfInBounds_toArray, List.set_cons_zero, List.set_cons_succ, i64_w, i32_w]
                                rfl
                              refine pure_ (i := 13) (N := some 86) (v := ?_) (a' := ?_) #[true, true, true, true, true, true, true, true, true, true, true, false, true, true, false, false, false, false, false, false, false, false, false, false, false] rfl rfl (any_of HT_.out (by kernel_rfl)) (fun _ _ _ h => h) (Or.inl ⟨by rfl, ?_⟩) ?_ ?_
                              rotate_left
                              · intro w'
                                go_simp
                                with_reducible rfl
                              rotate_left
                              · simp only [Act.put, List.setIfInBounds_toArray, List.set_cons_zero, List.set_cons_succ, i64_w, i32_w]
                                rfl
                              refine pure_ (i := 14) (N := some 87) (v := ?_) (a' := ?_) #[true, true, true, true, true, true, true, true, true, true, true, false, true, true, true, false, false, false, false, false, false, false, false, false, false] rfl rfl (any_of HT_.out (by kernel_rfl)) (fun _ _ _ h => h) (Or.inl ⟨by rfl, ?_⟩) ?_ ?_
                              rotate_left
                              · intro w'
                                go_simp
                                with_reducible rfl
                              rotate_left
                              · simp only [Act.put, List.setIfInBounds_toArray, List.set_cons_zero, List.set_cons_succ, i64_w, i32_w]
                                rfl
                              refine take_ (i := 15) (N := some 88) (v := ?_) (a' := ?_) #[true, true, true, true, true, true, true, true, true, true, true, false, true, true, true, true, false, false, false, false, false, false, false, false, false] rfl rfl (take_ofW HT_.out HW_.out (by kernel_rfl)) (fun _ _ _ h => h) (Or.inl ⟨by rfl, ?_⟩) hHeld ?_ ?_
                              rotate_left
                              · rintro w' ⟨s0, s1⟩
                                go_simp
                                with_reducible rfl
                              rotate_left
                              · simp only [Act.put, List.setIfInBounds_toArray, List.set_cons_zero, List.set_cons_succ, i64_w, i32_w]
                                rfl
                              refine one_ (i := 11) (N := some 84) #[true, true, true, true, true, true, true, true, true, true, true, true, true, true, true, true, false, false, false, false, false, false, false, false, false] rfl rfl (one_of HT_.out (by kernel_rfl)) (by decide) (fun K hK => ?_)
                              refine goes_ Try.func19 (by kernel_rfl) rfl #[.pointer (some ⟨g229, 0, none⟩)] (by rfl) rfl rfl (by (try simp only [List.map_toArray, List.map_cons, List.map_nil]); first | done | rfl | (simp only [List.length_drop, List.length_take]; rfl)) ?_
                              with_reducible refine (pack_Reader_Err.calls g229 t263 t264 t265 t269 t270 t271 t272 w _ ?side1 ?side2 A40.out).mono ?_
                              (case side1 => repeat (first | (with_reducible first | exact HI229.out | apply IsS54.alloc | apply IsS54.drewN | apply IsS54.drew | apply IsS54.set_0 | apply IsS54.set_1 | apply IsS54.set_2) | exact HI229.out))
                              (case side2 => repeat (first | (with_reducible first | exact HB.out | apply below_alloc | apply pw_below_drewN | apply below_drew1 | refine below_set ?_ (IsS54.ge HI229.out) | refine below_set ?_ (IsS40.ge HI230.out)) | exact HB.out))
                              rintro e w54 ⟨rfl, hi, hb, hk⟩
                              refine ⟨_, rfl, ?_⟩
                              have n0_ := Aside0.mk ((show IsS40 w _ gb230 x231000_13 x231001_13 from ⟨KeepBut.blk hk (show IsS40 w _ gb230 x231000_13 x231001_13 from by repeat (first | (with_reducible first | exact HI230.out | apply IsS40.alloc | apply IsS40.drewN | apply IsS40.drew | apply IsS40.set_0 | apply IsS40.set_1) | exact HI230.out)).1 (IsS54.ne_blk (show IsS54 w _ g229 t263 t264 t265 from by repeat (first | (with_reducible first | exact HI229.out | apply IsS54.alloc | apply IsS54.drewN | apply IsS54.drew | apply IsS54.set_0 | apply IsS54.set_1 | apply IsS54.set_2) | exact HI229.out)) (show IsS40 w _ gb230 x231000_13 x231001_13 from by repeat (first | (with_reducible first | exact HI230.out | apply IsS40.alloc | apply IsS40.drewN | apply IsS40.drew | apply IsS40.set_0 | apply IsS40.set_1) | exact HI230.out)).1 (by decide)).symm (by simp), (show IsS40 w _ gb230 x231000_13 x231001_13 from by repeat (first | (with_reducible first | exact HI230.out | apply IsS40.alloc | apply IsS40.drewN | apply IsS40.drew | apply IsS40.set_0 | apply IsS40.set_1) | exact HI230.out)).2⟩))
                              have n1_ := Aside0.mk (hb)
                              have n2_ := Aside0.mk (hi)
                              clear HI230
                              clear HB
                              clear HI229
                              have HI230 := n0_
                              have HB := n1_
                              have HI229 := n2_
                              clear n0_ n1_ n2_
                              (try clear hb)
                              (try clear hb2)
                              (try clear hk)
                              (try clear hi)
                              refine hK.out _ _ ⟨(blk_cell (Aside0.mk (show IsS40 w _ gb230 x231000_13 x231001_13 from HI230.out).1).out 0).trans rfl, (blk_cell (Aside0.mk (show IsS40 w _ gb230 x231000_13 x231001_13 from HI230.out).1).out 1).trans rfl⟩ (fun hHeld => ?_)
                              clear hK K
                              refine norm_ (a' := ?_) ?_ ?_
                              rotate_left
                              · show Act.put _ (some 84) _ = _
                                simp only [Act.put, List.setIfInBounds_toArray, List.set_cons_zero, List.set_cons_succ, i64_w, i32_w]
                                rfl
                              refine pure_ (i := 16) (N := some 89) (v := ?_) (a' := ?_) #[true, true, true, true, true, true, true, true, true, true, true, true, true, true, true, true, true, false, false, false, false, false, false, false, false] rfl rfl (any_of HT_.out (by kernel_rfl)) (fun _ _ _ h => h) (Or.inl ⟨by rfl, ?_⟩) ?_ ?_
                              rotate_left
                              · intro w'
                                go_simp
                                with_reducible rfl
                              rotate_left
                              · simp only [Act.put, List.setIfInBounds_toArray, List.set_cons_zero, List.set_cons_succ, i64_w, i32_w]
                                rfl
                              refine pure_ (i := 17) (N := some 90) (v := ?_) (a' := ?_) #[true, true, true, true, true, true, true, true, true, true, true, true, true, true, true, true, true, true, false, false, false, false, false, false, false] rfl rfl (any_of HT_.out (by kernel_rfl)) (fun _ _ _ h => h) (Or.inl ⟨by rfl, ?_⟩) ?_ ?_
                              rotate_left
                              · intro w'
                                go_simp
                                with_reducible rfl
                              rotate_left
                              · simp only [Act.put, List.setIfInBounds_toArray, List.set_cons_zero, List.set_cons_succ, i64_w, i32_w]
                                rfl
                              refine pure_ (i := 18) (N := some 91) (v := ?_) (a' := ?_) #[true, true, true, true, true, true, true, true, true, true, true, true, true, true, true, true, true, true, true, false, false, false, false, false, false] rfl rfl (any_of HT_.out (by kernel_rfl)) (fun _ _ _ h => h) (Or.inl ⟨by rfl, ?_⟩) ?_ ?_
                              rotate_left
                              · intro w'
                                go_simp
                                with_reducible rfl
                              rotate_left
                              · simp only [Act.put, List.setIfInBounds_toArray, List.set_cons_zero, List.set_cons_succ, i64_w, i32_w]
                                rfl
                              refine pure_ (i := 19) (N := some 92) (v := ?_) (a' := ?_) #[true, true, true, true, true, true, true, true, true, true, true, true, true, true, true, true, true, true, true, true, false, false, false, false, false] rfl rfl (any_of HT_.out (by kernel_rfl)) (fun _ _ _ h => h) (Or.inl ⟨by rfl, ?_⟩) ?_ ?_
                              rotate_left
                              · intro w'
                                go_simp
                                with_reducible rfl
                              rotate_left
                              · simp only [Act.put, List.setIfInBounds_toArray, List.set_cons_zero, List.set_cons_succ, i64_w, i32_w]
                                rfl
                              refine pure_ (i := 21) (N := some 94) (v := ?_) (a' := ?_) #[true, true, true, true, true, true, true, true, true, true, true, true, true, true, true, true, true, true, true, true, false, true, false, false, false] rfl rfl (any_of HT_.out (by kernel_rfl)) (fun _ _ _ h => h) (Or.inl ⟨by rfl, ?_⟩) ?_ ?_
                              rotate_left
                              · intro w'
                                go_simp
                                with_reducible rfl
                              rotate_left
                              · simp only [Act.put, List.setIfInBounds_toArray, List.set_cons_zero, List.set_cons_succ, i64_w, i32_w]
                                rfl
                              refine one_ (i := 20) (N := some 93) #[true, true, true, true, true, true, true, true, true, true, true, true, true, true, true, true, true, true, true, true, true, true, false, false, false] rfl rfl (one_of HT_.out (by kernel_rfl)) (by decide) (fun K hK => ?_)
                              refine goes_ Try.func29 (by kernel_rfl) rfl #[.pointer (some ⟨g229, 0, none⟩)] (by rfl) rfl rfl (by (try simp only [List.map_toArray, List.map_cons, List.map_nil]); first | done | rfl | (simp only [List.length_drop, List.length_take]; rfl)) ?_
                              with_reducible refine (pack_Reader_End.calls g229 t270 t271 t272 t273 t274 t275 t276 w _ ?side1 ?side2 A42.out).mono ?_
                              (case side1 => repeat (first | (with_reducible first | exact HI229.out | apply IsS54.alloc | apply IsS54.drewN | apply IsS54.drew | apply IsS54.set_0 | apply IsS54.set_1 | apply IsS54.set_2) | exact HI229.out))
                              (case side2 => repeat (first | (with_reducible first | exact HB.out | apply below_alloc | apply pw_below_drewN | apply below_drew1 | refine below_set ?_ (IsS54.ge HI229.out) | refine below_set ?_ (IsS40.ge HI230.out)) | exact HB.out))
                              rintro e w55 ⟨rfl, hi, hb, hk⟩
                              refine ⟨_, rfl, ?_⟩
                              have n0_ := Aside0.mk ((show IsS40 w _ gb230 x231000_13 x231001_13 from ⟨KeepBut.blk hk (show IsS40 w _ gb230 x231000_13 x231001_13 from by repeat (first | (with_reducible first | exact HI230.out | apply IsS40.alloc | apply IsS40.drewN | apply IsS40.drew | apply IsS40.set_0 | apply IsS40.set_1) | exact HI230.out)).1 (IsS54.ne_blk (show IsS54 w _ g229 t270 t271 t272 from by repeat (first | (with_reducible first | exact HI229.out | apply IsS54.alloc | apply IsS54.drewN | apply IsS54.drew | apply IsS54.set_0 | apply IsS54.set_1 | apply IsS54.set_2) | exact HI229.out)) (show IsS40 w _ gb230 x231000_13 x231001_13 from by repeat (first | (with_reducible first | exact HI230.out | apply IsS40.alloc | apply IsS40.drewN | apply IsS40.drew | apply IsS40.set_0 | apply IsS40.set_1) | exact HI230.out)).1 (by decide)).symm (by simp), (show IsS40 w _ gb230 x231000_13 x231001_13 from by repeat (first | (with_reducible first | exact HI230.out | apply IsS40.alloc | apply IsS40.drewN | apply IsS40.drew | apply IsS40.set_0 | apply IsS40.set_1) | exact HI230.out)).2⟩))
                              have n1_ := Aside0.mk (hb)
                              have n2_ := Aside0.mk (hi)
                              clear HI230
                              clear HB
                              clear HI229
                              have HI230 := n0_
                              have HB := n1_
                              have HI229 := n2_
                              clear n0_ n1_ n2_
                              (try clear hb)
                              (try clear hb2)
                              (try clear hk)
                              (try clear hi)
                              refine hK.out _ _ ⟨(blk_cell (Aside0.mk (show IsS40 w _ gb230 x231000_13 x231001_13 from HI230.out).1).out 0).trans rfl, (blk_cell (Aside0.mk (show IsS40 w _ gb230 x231000_13 x231001_13 from HI230.out).1).out 1).trans rfl⟩ (fun hHeld => ?_)
                              clear hK K
                              refine norm_ (a' := ?_) ?_ ?_
                              rotate_left
                              · show Act.put _ (some 93) _ = _
                                simp only [Act.put, List.setIfInBounds_toArray, List.set_cons_zero, List.set_cons_succ, i64_w, i32_w]
                                rfl
                              refine one_ (i := 22) (N := some 95) #[true, true, true, true, true, true, true, true, true, true, true, true, true, true, true, true, true, true, true, true, true, true, true, false, false] rfl rfl (one_of HT_.out (by kernel_rfl)) (by decide) (fun K hK => ?_)
                              refine goes_ Try.func30 (by kernel_rfl) rfl #[.pointer (some ⟨gb230, 0, none⟩)] (by rfl) rfl rfl (by (try simp only [List.map_toArray, List.map_cons, List.map_nil]); first | done | rfl | (simp only [List.length_drop, List.length_take]; rfl)) ?_
                              with_reducible refine (coppiceref02_Reader_End.calls gb230 x231000_13 x231001_13 t277 t278 t279 w _ ?side1 ?side2 A43.out).mono ?_
                              (case side1 => repeat (first | (with_reducible first | exact HI230.out | apply IsS40.alloc | apply IsS40.drewN | apply IsS40.drew | apply IsS40.set_0 | apply IsS40.set_1) | exact HI230.out))
                              (case side2 => repeat (first | (with_reducible first | exact HB.out | apply below_alloc | apply pw_below_drewN | apply below_drew1 | refine below_set ?_ (IsS54.ge HI229.out) | refine below_set ?_ (IsS40.ge HI230.out)) | exact HB.out))
                              rintro e w56 ⟨rfl, hi, hb, hk⟩
                              refine ⟨_, rfl, ?_⟩
                              (try rw [A43q.out.1] at hi); (try rw [A43q.out.2] at hi)
                              have n0_ := Aside0.mk ((show IsS54 w _ g229 t274 t275 t276 from ⟨KeepBut.blk hk (show IsS54 w _ g229 t274 t275 t276 from by repeat (first | (with_reducible first | exact HI229.out | apply IsS54.alloc | apply IsS54.drewN | apply IsS54.drew | apply IsS54.set_0 | apply IsS54.set_1 | apply IsS54.set_2) | exact HI229.out)).1 (IsS40.ne_blk (show IsS40 w _ gb230 x231000_13 x231001_13 from by repeat (first | (with_reducible first | exact HI230.out | apply IsS40.alloc | apply IsS40.drewN | apply IsS40.drew | apply IsS40.set_0 | apply IsS40.set_1) | exact HI230.out)) (show IsS54 w _ g229 t274 t275 t276 from by repeat (first | (with_reducible first | exact HI229.out | apply IsS54.alloc | apply IsS54.drewN | apply IsS54.drew | apply IsS54.set_0 | apply IsS54.set_1 | apply IsS54.set_2) | exact HI229.out)).1 (by decide)).symm (by simp), (show IsS54 w _ g229 t274 t275 t276 from by repeat (first | (with_reducible first | exact HI229.out | apply IsS54.alloc | apply IsS54.drewN | apply IsS54.drew | apply IsS54.set_0 | apply IsS54.set_1 | apply IsS54.set_2) | exact HI229.out)).2⟩))
                              have n1_ := Aside0.mk (hb)
                              have n2_ := Aside0.mk (hi)
                              clear HI229
                              clear HB
                              clear HI230
                              have HI229 := n0_
                              have HB := n1_
                              have HI230 := n2_
                              clear n0_ n1_ n2_
                              (try clear hb)
                              (try clear hb2)
                              (try clear hk)
                              (try clear hi)
                              refine hK.out _ _ ⟨(blk_cell (Aside0.mk (show IsS40 w _ gb230 x231000_13 x231001_13 from HI230.out).1).out 0).trans rfl, (blk_cell (Aside0.mk (show IsS40 w _ gb230 x231000_13 x231001_13 from HI230.out).1).out 1).trans rfl⟩ (fun hHeld => ?_)
                              clear hK K
                              refine norm_ (a' := ?_) ?_ ?_
                              rotate_left
                              · show Act.put _ (some 95) _ = _
                                simp only [Act.put, List.setIfInBounds_toArray, List.set_cons_zero, List.set_cons_succ, i64_w, i32_w]
                                rfl
                              refine pure_ (i := 23) (N := some 96) (v := ?_) (a' := ?_) #[true, true, true, true, true, true, true, true, true, true, true, true, true, true, true, true, true, true, true, true, true, true, true, true, false] rfl rfl (any_of HT_.out (by kernel_rfl)) (fun _ _ _ h => h) (Or.inl ⟨by rfl, ?_⟩) ?_ ?_
                              rotate_left
                              · intro w'
                                go_simp
                                with_reducible rfl
                              rotate_left
                              · simp only [Act.put, List.setIfInBounds_toArray, List.set_cons_zero, List.set_cons_succ, i64_w, i32_w]
                                rfl
                              refine pure_ (i := 24) (N := some 97) (v := ?_) (a' := ?_) #[true, true, true, true, true, true, true, true, true, true, true, true, true, true, true, true, true, true, true, true, true, true, true, true, true] rfl rfl (any_of HT_.out (by kernel_rfl)) (fun _ _ _ h => h) (Or.inl ⟨by rfl, ?_⟩) ?_ ?_
                              rotate_left
                              · intro w'
                                go_simp
                                with_reducible rfl
                              rotate_left
                              · simp only [Act.put, List.setIfInBounds_toArray, List.set_cons_zero, List.set_cons_succ, i64_w, i32_w]
                                rfl
                              refine done_ (done_of HT_.out (by kernel_rfl)) ?_
                              try go_wp2
                              go_ret
                              exact ⟨by first | rfl | (simp [errW_none, errW_some] <;> rfl) | (simp [*, errW_none, errW_some] <;> rfl), by repeat (first | (with_reducible first | exact HB.out | apply below_alloc | apply pw_below_drewN | apply below_drew1 | refine below_set ?_ (IsS54.ge HI229.out) | refine below_set ?_ (IsS40.ge HI230.out)) | exact HB.out)⟩
                          · rw [if_neg c41] at H
                            have c41b0 : (t269 == x231001_13) = false := beq_eq_false_iff_ne.mpr c41
                            have c41b1 : (t269 != x231001_13) = true := bne_iff_ne.mpr c41
                            obtain rfl := Option.some.inj H
                            try go_wp2
                            have n0_ := Aside0.mk (IsS54.drew HI229.out)
                            have n1_ := Aside0.mk (IsS40.drew HI230.out)
                            have n2_ := Aside0.mk (below_drew1 HB.out)
                            clear HI229
                            clear HI230
                            clear HB
                            have HI229 := n0_
                            have HI230 := n1_
                            have HB := n2_
                            clear n0_ n1_ n2_
                            refine start_ (n := 25) (S := fun w' => w'.cell? ⟨gb230, 0, none⟩ = some (.string x231000_13) ∧ w'.cell? ⟨gb230, 1, none⟩ = some (.int .i64 x231001_13)) (ds := []) #[false, false, false, false, false, false, false, false, false, false, false, false, false, false, false, false, false, false, false, false, false, false, false, false, false] (by kernel_rfl) rfl rfl ⟨(blk_cell (Aside0.mk (show IsS40 w _ gb230 x231000_13 x231001_13 from HI230.out).1).out 0).trans rfl, (blk_cell (Aside0.mk (show IsS40 w _ gb230 x231000_13 x231001_13 from HI230.out).1).out 1).trans rfl⟩ (fun hHeld => ?_); refine with_tabW coppicelaw02_PackReads.tab19 coppicelaw02_PackReads.bits19 (fun HT_ HW_ => ?_)
                            generalize wc.drew = w57 at HI229 HI230 HB hHeld ⊢
                            refine pure_ (i := 0) (N := some 73) (v := ?_) (a' := ?_) #[true, false, false, false, false, false, false, false, false, false, false, false, false, false, false, false, false, false, false, false, false, false, false, false, false] rfl rfl (any_of HT_.out (by kernel_rfl)) (fun _ _ _ h => h) (Or.inl ⟨by rfl, ?_⟩) ?_ ?_
                            rotate_left
                            · intro w'
                              go_simp
                              with_reducible rfl
                            rotate_left
                            · simp only [Act.put, List.setIfInBounds_toArray, List.set_cons_zero, List.set_cons_succ, i64_w, i32_w]
                              rfl
                            refine pure_ (i := 1) (N := some 74) (v := ?_) (a' := ?_) #[true, true, false, false, false, false, false, false, false, false, false, false, false, false, false, false, false, false, false, false, false, false, false, false, false] rfl rfl (any_of HT_.out (by kernel_rfl)) (fun _ _ _ h => h) (Or.inl ⟨by rfl, ?_⟩) ?_ ?_
                            rotate_left
                            · intro w'
                              go_simp
                              with_reducible rfl
                            rotate_left
                            · simp only [Act.put, List.setIfInBounds_toArray, List.set_cons_zero, List.set_cons_succ, i64_w, i32_w]
                              rfl
                            refine pure_ (i := 2) (N := some 75) (v := ?_) (a' := ?_) #[true, true, true, false, false, false, false, false, false, false, false, false, false, false, false, false, false, false, false, false, false, false, false, false, false] rfl rfl (any_of HT_.out (by kernel_rfl)) (fun _ _ _ h => h) (Or.inl ⟨by rfl, ?_⟩) ?_ ?_
                            rotate_left
                            · intro w'
                              go_simp
                              with_reducible rfl
                            rotate_left
                            · simp only [Act.put, List.setIfInBounds_toArray, List.set_cons_zero, List.set_cons_succ, i64_w, i32_w]
                              rfl
                            refine pure_ (i := 3) (N := some 76) (v := ?_) (a' := ?_) #[true, true, true, true, false, false, false, false, false, false, false, false, false, false, false, false, false, false, false, false, false, false, false, false, false] rfl rfl (any_of HT_.out (by kernel_rfl)) (fun _ _ _ h => h) (Or.inl ⟨by rfl, ?_⟩) ?_ ?_
                            rotate_left
                            · intro w'
                              go_simp
                              with_reducible rfl
                            rotate_left
                            · simp only [Act.put, List.setIfInBounds_toArray, List.set_cons_zero, List.set_cons_succ, i64_w, i32_w]
                              rfl
                            refine pure_ (i := 5) (N := some 78) (v := ?_) (a' := ?_) #[true, true, true, true, false, true, false, false, false, false, false, false, false, false, false, false, false, false, false, false, false, false, false, false, false] rfl rfl (any_of HT_.out (by kernel_rfl)) (fun _ _ _ h => h) (Or.inl ⟨by rfl, ?_⟩) ?_ ?_
                            rotate_left
                            · intro w'
                              go_simp
                              with_reducible rfl
                            rotate_left
                            · simp only [Act.put, List.setIfInBounds_toArray, List.set_cons_zero, List.set_cons_succ, i64_w, i32_w]
                              rfl
                            refine one_ (i := 4) (N := some 77) #[true, true, true, true, true, true, false, false, false, false, false, false, false, false, false, false, false, false, false, false, false, false, false, false, false] rfl rfl (one_of HT_.out (by kernel_rfl)) (by decide) (fun K hK => ?_)
                            refine goes_ Try.func20 (by kernel_rfl) rfl #[.pointer (some ⟨g229, 0, none⟩)] (by rfl) rfl rfl (by (try simp only [List.map_toArray, List.map_cons, List.map_nil]); first | done | rfl | (simp only [List.length_drop, List.length_take]; rfl)) ?_
                            with_reducible refine (pack_Reader_Left.calls g229 x230000_13 x230001_13 x230002_13 t262 t263 t264 t265 w _ ?side1 ?side2 A37.out).mono ?_
                            (case side1 => repeat (first | (with_reducible first | exact HI229.out | apply IsS54.alloc | apply IsS54.drewN | apply IsS54.drew | apply IsS54.set_0 | apply IsS54.set_1 | apply IsS54.set_2) | exact HI229.out))
                            (case side2 => repeat (first | (with_reducible first | exact HB.out | apply below_alloc | apply pw_below_drewN | apply below_drew1 | refine below_set ?_ (IsS54.ge HI229.out) | refine below_set ?_ (IsS40.ge HI230.out)) | exact HB.out))
                            rintro e w58 ⟨rfl, hi, hb, hk⟩
                            refine ⟨_, rfl, ?_⟩
                            have n0_ := Aside0.mk ((show IsS40 w _ gb230 x231000_13 x231001_13 from ⟨KeepBut.blk hk (show IsS40 w _ gb230 x231000_13 x231001_13 from by repeat (first | (with_reducible first | exact HI230.out | apply IsS40.alloc | apply IsS40.drewN | apply IsS40.drew | apply IsS40.set_0 | apply IsS40.set_1) | exact HI230.out)).1 (IsS54.ne_blk (show IsS54 w _ g229 x230000_13 x230001_13 x230002_13 from by repeat (first | (with_reducible first | exact HI229.out | apply IsS54.alloc | apply IsS54.drewN | apply IsS54.drew | apply IsS54.set_0 | apply IsS54.set_1 | apply IsS54.set_2) | exact HI229.out)) (show IsS40 w _ gb230 x231000_13 x231001_13 from by repeat (first | (with_reducible first | exact HI230.out | apply IsS40.alloc | apply IsS40.drewN | apply IsS40.drew | apply IsS40.set_0 | apply IsS40.set_1) | exact HI230.out)).1 (by decide)).symm (by simp), (show IsS40 w _ gb230 x231000_13 x231001_13 from by repeat (first | (with_reducible first | exact HI230.out | apply IsS40.alloc | apply IsS40.drewN | apply IsS40.drew | apply IsS40.set_0 | apply IsS40.set_1) | exact HI230.out)).2⟩))
                            have n1_ := Aside0.mk (hb)
                            have n2_ := Aside0.mk (hi)
                            clear HI230
                            clear HB
                            clear HI229
                            have HI230 := n0_
                            have HB := n1_
                            have HI229 := n2_
                            clear n0_ n1_ n2_
                            (try clear hb)
                            (try clear hb2)
                            (try clear hk)
                            (try clear hi)
                            refine hK.out _ _ ⟨(blk_cell (Aside0.mk (show IsS40 w _ gb230 x231000_13 x231001_13 from HI230.out).1).out 0).trans rfl, (blk_cell (Aside0.mk (show IsS40 w _ gb230 x231000_13 x231001_13 from HI230.out).1).out 1).trans rfl⟩ (fun hHeld => ?_)
                            clear hK K
                            refine norm_ (a' := ?_) ?_ ?_
                            rotate_left
                            · show Act.put _ (some 77) _ = _
                              simp only [Act.put, List.setIfInBounds_toArray, List.set_cons_zero, List.set_cons_succ, i64_w, i32_w]
                              rfl
                            refine one_ (i := 6) (N := some 79) #[true, true, true, true, true, true, true, false, false, false, false, false, false, false, false, false, false, false, false, false, false, false, false, false, false] rfl rfl (one_of HT_.out (by kernel_rfl)) (by decide) (fun K hK => ?_)
                            refine goes_ Try.func28 (by kernel_rfl) rfl #[.pointer (some ⟨gb230, 0, none⟩)] (by rfl) rfl rfl (by (try simp only [List.map_toArray, List.map_cons, List.map_nil]); first | done | rfl | (simp only [List.length_drop, List.length_take]; rfl)) ?_
                            with_reducible refine (coppiceref02_Reader_Left.calls gb230 x231000_13 x231001_13 t266 t267 t268 w _ ?side1 ?side2 A38.out).mono ?_
                            (case side1 => repeat (first | (with_reducible first | exact HI230.out | apply IsS40.alloc | apply IsS40.drewN | apply IsS40.drew | apply IsS40.set_0 | apply IsS40.set_1) | exact HI230.out))
                            (case side2 => repeat (first | (with_reducible first | exact HB.out | apply below_alloc | apply pw_below_drewN | apply below_drew1 | refine below_set ?_ (IsS54.ge HI229.out) | refine below_set ?_ (IsS40.ge HI230.out)) | exact HB.out))
                            rintro e w59 ⟨rfl, hi, hb, hk⟩
                            refine ⟨_, rfl, ?_⟩
                            (try rw [A38q.out.1] at hi); (try rw [A38q.out.2] at hi)
                            have n0_ := Aside0.mk ((show IsS54 w _ g229 t263 t264 t265 from ⟨KeepBut.blk hk (show IsS54 w _ g229 t263 t264 t265 from by repeat (first | (with_reducible first | exact HI229.out | apply IsS54.alloc | apply IsS54.drewN | apply IsS54.drew | apply IsS54.set_0 | apply IsS54.set_1 | apply IsS54.set_2) | exact HI229.out)).1 (IsS40.ne_blk (show IsS40 w _ gb230 x231000_13 x231001_13 from by repeat (first | (with_reducible first | exact HI230.out | apply IsS40.alloc | apply IsS40.drewN | apply IsS40.drew | apply IsS40.set_0 | apply IsS40.set_1) | exact HI230.out)) (show IsS54 w _ g229 t263 t264 t265 from by repeat (first | (with_reducible first | exact HI229.out | apply IsS54.alloc | apply IsS54.drewN | apply IsS54.drew | apply IsS54.set_0 | apply IsS54.set_1 | apply IsS54.set_2) | exact HI229.out)).1 (by decide)).symm (by simp), (show IsS54 w _ g229 t263 t264 t265 from by repeat (first | (with_reducible first | exact HI229.out | apply IsS54.alloc | apply IsS54.drewN | apply IsS54.drew | apply IsS54.set_0 | apply IsS54.set_1 | apply IsS54.set_2) | exact HI229.out)).2⟩))
                            have n1_ := Aside0.mk (hb)
                            have n2_ := Aside0.mk (hi)
                            clear HI229
                            clear HB
                            clear HI230
                            have HI229 := n0_
                            have HB := n1_
                            have HI230 := n2_
                            clear n0_ n1_ n2_
                            (try clear hb)
                            (try clear hb2)
                            (try clear hk)
                            (try clear hi)
                            refine hK.out _ _ ⟨(blk_cell (Aside0.mk (show IsS40 w _ gb230 x231000_13 x231001_13 from HI230.out).1).out 0).trans rfl, (blk_cell (Aside0.mk (show IsS40 w _ gb230 x231000_13 x231001_13 from HI230.out).1).out 1).trans rfl⟩ (fun hHeld => ?_)
                            clear hK K
                            refine norm_ (a' := ?_) ?_ ?_
                            rotate_left
                            · show Act.put _ (some 79) _ = _
                              simp only [Act.put, List.setIfInBounds_toArray, List.set_cons_zero, List.set_cons_succ, i64_w, i32_w]
                              rfl
                            refine pure_ (i := 7) (N := some 80) (v := ?_) (a' := ?_) #[true, true, true, true, true, true, true, true, false, false, false, false, false, false, false, false, false, false, false, false, false, false, false, false, false] rfl rfl (any_of HT_.out (by kernel_rfl)) (fun _ _ _ h => h) (Or.inl ⟨by rfl, ?_⟩) ?_ ?_
                            rotate_left
                            · intro w'
                              go_simp
                              with_reducible rfl
                            rotate_left
                            · simp only [Act.put, List.setIfInBounds_toArray, List.set_cons_zero, List.set_cons_succ, i64_w, i32_w]
                              rfl
                            refine pure_ (i := 8) (N := some 81) (v := ?_) (a' := ?_) #[true, true, true, true, true, true, true, true, true, false, false, false, false, false, false, false, false, false, false, false, false, false, false, false, false] rfl rfl (any_of HT_.out (by kernel_rfl)) (fun _ _ _ h => h) (Or.inl ⟨by rfl, ?_⟩) ?_ ?_
                            rotate_left
                            · intro w'
                              go_simp
                              with_reducible rfl
                            rotate_left
                            · simp only [Act.put, List.setIfInBounds_toArray, List.set_cons_zero, List.set_cons_succ, i64_w, i32_w]
                              rfl
                            refine pure_ (i := 9) (N := some 82) (v := ?_) (a' := ?_) #[true, true, true, true, true, true, true, true, true, true, false, false, false, false, false, false, false, false, false, false, false, false, false, false, false] rfl rfl (any_of HT_.out (by kernel_rfl)) (fun _ _ _ h => h) (Or.inl ⟨by rfl, ?_⟩) ?_ ?_
                            rotate_left
                            · intro w'
                              go_simp
                              with_reducible rfl
                            rotate_left
                            · simp only [Act.put, List.setIfInBounds_toArray, List.set_cons_zero, List.set_cons_succ, i64_w, i32_w]
                              rfl
                            refine pure_ (i := 10) (N := some 83) (v := ?_) (a' := ?_) #[true, true, true, true, true, true, true, true, true, true, true, false, false, false, false, false, false, false, false, false, false, false, false, false, false] rfl rfl (any_of HT_.out (by kernel_rfl)) (fun _ _ _ h => h) (Or.inl ⟨by rfl, ?_⟩) ?_ ?_
                            rotate_left
                            · intro w'
                              go_simp
                              with_reducible rfl
                            rotate_left
                            · simp only [Act.put, List.setIfInBounds_toArray, List.set_cons_zero, List.set_cons_succ, i64_w, i32_w]
                              rfl
                            refine pure_ (i := 12) (N := some 85) (v := ?_) (a' := ?_) #[true, true, true, true, true, true, true, true, true, true, true, false, true, false, false, false, false, false, false, false, false, false, false, false, false] rfl rfl (any_of HT_.out (by kernel_rfl)) (fun _ _ _ h => h) (Or.inl ⟨by rfl, ?_⟩) ?_ ?_
                            rotate_left
                            · intro w'
                              go_simp
                              with_reducible rfl
                            rotate_left
                            · simp only [Act.put, List.setIfInBounds_toArray, List.set_cons_zero, List.set_cons_succ, i64_w, i32_w]
                              rfl
                            refine pure_ (i := 13) (N := some 86) (v := ?_) (a' := ?_) #[true, true, true, true, true, true, true, true, true, true, true, false, true, true, false, false, false, false, false, false, false, false, false, false, false] rfl rfl (any_of HT_.out (by kernel_rfl)) (fun _ _ _ h => h) (Or.inl ⟨by rfl, ?_⟩) ?_ ?_
                            rotate_left
                            · intro w'
                              go_simp
                              with_reducible rfl
                            rotate_left
                            · simp only [Act.put, List.setIfInBounds_toArray, List.set_cons_zero, List.set_cons_succ, i64_w, i32_w]
                              rfl
                            refine pure_ (i := 14) (N := some 87) (v := ?_) (a' := ?_) #[true, true, true, true, true, true, true, true, true, true, true, false, true, true, true, false, false, false, false, false, false, false, false, false, false] rfl rfl (any_of HT_.out (by kernel_rfl)) (fun _ _ _ h => h) (Or.inl ⟨by rfl, ?_⟩) ?_ ?_
                            rotate_left
                            · intro w'
                              go_simp
                              with_reducible rfl
                            rotate_left
                            · simp only [Act.put, List.setIfInBounds_toArray, List.set_cons_zero, List.set_cons_succ, i64_w, i32_w]
                              rfl
                            refine take_ (i := 15) (N := some 88) (v := ?_) (a' := ?_) #[true, true, true, true, true, true, true, true, true, true, true, false, true, true, true, true, false, false, false, false, false, false, false, false, false] rfl rfl (take_ofW HT_.out HW_.out (by kernel_rfl)) (fun _ _ _ h => h) (Or.inl ⟨by rfl, ?_⟩) hHeld ?_ ?_
                            rotate_left
                            · rintro w' ⟨s0, s1⟩
                              go_simp
                              with_reducible rfl
                            rotate_left
                            · simp only [Act.put, List.setIfInBounds_toArray, List.set_cons_zero, List.set_cons_succ, i64_w, i32_w]
                              rfl
                            refine one_ (i := 11) (N := some 84) #[true, true, true, true, true, true, true, true, true, true, true, true, true, true, true, true, false, false, false, false, false, false, false, false, false] rfl rfl (one_of HT_.out (by kernel_rfl)) (by decide) (fun K hK => ?_)
                            refine goes_ Try.func19 (by kernel_rfl) rfl #[.pointer (some ⟨g229, 0, none⟩)] (by rfl) rfl rfl (by (try simp only [List.map_toArray, List.map_cons, List.map_nil]); first | done | rfl | (simp only [List.length_drop, List.length_take]; rfl)) ?_
                            with_reducible refine (pack_Reader_Err.calls g229 t263 t264 t265 t269 t270 t271 t272 w _ ?side1 ?side2 A40.out).mono ?_
                            (case side1 => repeat (first | (with_reducible first | exact HI229.out | apply IsS54.alloc | apply IsS54.drewN | apply IsS54.drew | apply IsS54.set_0 | apply IsS54.set_1 | apply IsS54.set_2) | exact HI229.out))
                            (case side2 => repeat (first | (with_reducible first | exact HB.out | apply below_alloc | apply pw_below_drewN | apply below_drew1 | refine below_set ?_ (IsS54.ge HI229.out) | refine below_set ?_ (IsS40.ge HI230.out)) | exact HB.out))
                            rintro e w60 ⟨rfl, hi, hb, hk⟩
                            refine ⟨_, rfl, ?_⟩
                            have n0_ := Aside0.mk ((show IsS40 w _ gb230 x231000_13 x231001_13 from ⟨KeepBut.blk hk (show IsS40 w _ gb230 x231000_13 x231001_13 from by repeat (first | (with_reducible first | exact HI230.out | apply IsS40.alloc | apply IsS40.drewN | apply IsS40.drew | apply IsS40.set_0 | apply IsS40.set_1) | exact HI230.out)).1 (IsS54.ne_blk (show IsS54 w _ g229 t263 t264 t265 from by repeat (first | (with_reducible first | exact HI229.out | apply IsS54.alloc | apply IsS54.drewN | apply IsS54.drew | apply IsS54.set_0 | apply IsS54.set_1 | apply IsS54.set_2) | exact HI229.out)) (show IsS40 w _ gb230 x231000_13 x231001_13 from by repeat (first | (with_reducible first | exact HI230.out | apply IsS40.alloc | apply IsS40.drewN | apply IsS40.drew | apply IsS40.set_0 | apply IsS40.set_1) | exact HI230.out)).1 (by decide)).symm (by simp), (show IsS40 w _ gb230 x231000_13 x231001_13 from by repeat (first | (with_reducible first | exact HI230.out | apply IsS40.alloc | apply IsS40.drewN | apply IsS40.drew | apply IsS40.set_0 | apply IsS40.set_1) | exact HI230.out)).2⟩))
                            have n1_ := Aside0.mk (hb)
                            have n2_ := Aside0.mk (hi)
                            clear HI230
                            clear HB
                            clear HI229
                            have HI230 := n0_
                            have HB := n1_
                            have HI229 := n2_
                            clear n0_ n1_ n2_
                            (try clear hb)
                            (try clear hb2)
                            (try clear hk)
                            (try clear hi)
                            refine hK.out _ _ ⟨(blk_cell (Aside0.mk (show IsS40 w _ gb230 x231000_13 x231001_13 from HI230.out).1).out 0).trans rfl, (blk_cell (Aside0.mk (show IsS40 w _ gb230 x231000_13 x231001_13 from HI230.out).1).out 1).trans rfl⟩ (fun hHeld => ?_)
                            clear hK K
                            refine norm_ (a' := ?_) ?_ ?_
                            rotate_left
                            · show Act.put _ (some 84) _ = _
                              simp only [Act.put, List.setIfInBounds_toArray, List.set_cons_zero, List.set_cons_succ, i64_w, i32_w]
                              rfl
                            refine pure_ (i := 16) (N := some 89) (v := ?_) (a' := ?_) #[true, true, true, true, true, true, true, true, true, true, true, true, true, true, true, true, true, false, false, false, false, false, false, false, false] rfl rfl (any_of HT_.out (by kernel_rfl)) (fun _ _ _ h => h) (Or.inl ⟨by rfl, ?_⟩) ?_ ?_
                            rotate_left
                            · intro w'
                              go_simp
                              with_reducible rfl
                            rotate_left
                            · simp only [Act.put, List.setIfInBounds_toArray, List.set_cons_zero, List.set_cons_succ, i64_w, i32_w]
                              rfl
                            refine pure_ (i := 17) (N := some 90) (v := ?_) (a' := ?_) #[true, true, true, true, true, true, true, true, true, true, true, true, true, true, true, true, true, true, false, false, false, false, false, false, false] rfl rfl (any_of HT_.out (by kernel_rfl)) (fun _ _ _ h => h) (Or.inl ⟨by rfl, ?_⟩) ?_ ?_
                            rotate_left
                            · intro w'
                              go_simp
                              with_reducible rfl
                            rotate_left
                            · simp only [Act.put, List.setIfInBounds_toArray, List.set_cons_zero, List.set_cons_succ, i64_w, i32_w]
                              rfl
                            refine pure_ (i := 18) (N := some 91) (v := ?_) (a' := ?_) #[true, true, true, true, true, true, true, true, true, true, true, true, true, true, true, true, true, true, true, false, false, false, false, false, false] rfl rfl (any_of HT_.out (by kernel_rfl)) (fun _ _ _ h => h) (Or.inl ⟨by rfl, ?_⟩) ?_ ?_
                            rotate_left
                            · intro w'
                              go_simp
                              with_reducible rfl
                            rotate_left
                            · simp only [Act.put, List.setIfInBounds_toArray, List.set_cons_zero, List.set_cons_succ, i64_w, i32_w]
                              rfl
                            refine pure_ (i := 19) (N := some 92) (v := undef) (a' := ?_) #[true, true, true, true, true, true, true, true, true, true, true, true, true, true, true, true, true, true, true, true, false, false, false, false, false] rfl rfl (any_of HT_.out (by kernel_rfl)) (fun _ _ _ h => h) (Or.inr ⟨by rfl, rfl⟩) ?_ ?_
                            rotate_left
                            · simp only [Act.put, List.setIfInBounds_toArray, List.set_cons_zero, List.set_cons_succ, i64_w, i32_w]
                              rfl
                            refine pure_ (i := 20) (N := some 93) (v := undef) (a' := ?_) #[true, true, true, true, true, true, true, true, true, true, true, true, true, true, true, true, true, true, true, true, true, false, false, false, false] rfl rfl (any_of HT_.out (by kernel_rfl)) (fun _ _ _ h => h) (Or.inr ⟨by rfl, rfl⟩) ?_ ?_
                            rotate_left
                            · simp only [Act.put, List.setIfInBounds_toArray, List.set_cons_zero, List.set_cons_succ, i64_w, i32_w]
                              rfl
                            refine pure_ (i := 21) (N := some 94) (v := undef) (a' := ?_) #[true, true, true, true, true, true, true, true, true, true, true, true, true, true, true, true, true, true, true, true, true, true, false, false, false] rfl rfl (any_of HT_.out (by kernel_rfl)) (fun _ _ _ h => h) (Or.inr ⟨by rfl, rfl⟩) ?_ ?_
                            rotate_left
                            · simp only [Act.put, List.setIfInBounds_toArray, List.set_cons_zero, List.set_cons_succ, i64_w, i32_w]
                              rfl
                            refine pure_ (i := 22) (N := some 95) (v := undef) (a' := ?_) #[true, true, true, true, true, true, true, true, true, true, true, true, true, true, true, true, true, true, true, true, true, true, true, false, false] rfl rfl (any_of HT_.out (by kernel_rfl)) (fun _ _ _ h => h) (Or.inr ⟨by rfl, rfl⟩) ?_ ?_
                            rotate_left
                            · simp only [Act.put, List.setIfInBounds_toArray, List.set_cons_zero, List.set_cons_succ, i64_w, i32_w]
                              rfl
                            refine pure_ (i := 23) (N := some 96) (v := undef) (a' := ?_) #[true, true, true, true, true, true, true, true, true, true, true, true, true, true, true, true, true, true, true, true, true, true, true, true, false] rfl rfl (any_of HT_.out (by kernel_rfl)) (fun _ _ _ h => h) (Or.inr ⟨by rfl, rfl⟩) ?_ ?_
                            rotate_left
                            · simp only [Act.put, List.setIfInBounds_toArray, List.set_cons_zero, List.set_cons_succ, i64_w, i32_w]
                              rfl
                            refine pure_ (i := 24) (N := some 97) (v := ?_) (a' := ?_) #[true, true, true, true, true, true, true, true, true, true, true, true, true, true, true, true, true, true, true, true, true, true, true, true, true] rfl rfl (any_of HT_.out (by kernel_rfl)) (fun _ _ _ h => h) (Or.inl ⟨by rfl, ?_⟩) ?_ ?_
                            rotate_left
                            · intro w'
                              go_simp
                              with_reducible rfl
                            rotate_left
                            · simp only [Act.put, List.setIfInBounds_toArray, List.set_cons_zero, List.set_cons_succ, i64_w, i32_w]
                              rfl
                            refine done_ (done_of HT_.out (by kernel_rfl)) ?_
                            try go_wp2
                            go_ret
                            exact ⟨by first | rfl | (simp [errW_none, errW_some] <;> rfl) | (simp [*, errW_none, errW_some] <;> rfl), by repeat (first | (with_reducible first | exact HB.out | apply below_alloc | apply pw_below_drewN | apply below_drew1 | refine below_set ?_ (IsS54.ge HI229.out) | refine below_set ?_ (IsS40.ge HI230.out)) | exact HB.out)⟩
                        · rw [if_neg c39] at H
                          have c39b0 : (t262 == t266) = false := beq_eq_false_iff_ne.mpr c39
                          have c39b1 : (t262 != t266) = true := bne_iff_ne.mpr c39
                          obtain rfl := Option.some.inj H
                          try go_wp2
                          have n0_ := Aside0.mk (IsS54.drew HI229.out)
                          have n1_ := Aside0.mk (IsS40.drew HI230.out)
                          have n2_ := Aside0.mk (below_drew1 HB.out)
                          clear HI229
                          clear HI230
                          clear HB
                          have HI229 := n0_
                          have HI230 := n1_
                          have HB := n2_
                          clear n0_ n1_ n2_
                          refine start_ (n := 25) (S := fun w' => True) (ds := []) #[false, false, false, false, false, false, false, false, false, false, false, false, false, false, false, false, false, false, false, false, false, false, false, false, false] (by kernel_rfl) rfl rfl trivial (fun hHeld => ?_); refine with_tabW coppicelaw02_PackReads.tab19 coppicelaw02_PackReads.bits19 (fun HT_ HW_ => ?_)
                          generalize wc.drew = w61 at HI229 HI230 HB hHeld ⊢
                          refine pure_ (i := 0) (N := some 73) (v := ?_) (a' := ?_) #[true, false, false, false, false, false, false, false, false, false, false, false, false, false, false, false, false, false, false, false, false, false, false, false, false] rfl rfl (any_of HT_.out (by kernel_rfl)) (fun _ _ _ h => h) (Or.inl ⟨by rfl, ?_⟩) ?_ ?_
                          rotate_left
                          · intro w'
                            go_simp
                            with_reducible rfl
                          rotate_left
                          · simp only [Act.put, List.setIfInBounds_toArray, List.set_cons_zero, List.set_cons_succ, i64_w, i32_w]
                            rfl
                          refine pure_ (i := 1) (N := some 74) (v := ?_) (a' := ?_) #[true, true, false, false, false, false, false, false, false, false, false, false, false, false, false, false, false, false, false, false, false, false, false, false, false] rfl rfl (any_of HT_.out (by kernel_rfl)) (fun _ _ _ h => h) (Or.inl ⟨by rfl, ?_⟩) ?_ ?_
                          rotate_left
                          · intro w'
                            go_simp
                            with_reducible rfl
                          rotate_left
                          · simp only [Act.put, List.setIfInBounds_toArray, List.set_cons_zero, List.set_cons_succ, i64_w, i32_w]
                            rfl
                          refine pure_ (i := 2) (N := some 75) (v := ?_) (a' := ?_) #[true, true, true, false, false, false, false, false, false, false, false, false, false, false, false, false, false, false, false, false, false, false, false, false, false] rfl rfl (any_of HT_.out (by kernel_rfl)) (fun _ _ _ h => h) (Or.inl ⟨by rfl, ?_⟩) ?_ ?_
                          rotate_left
                          · intro w'
                            go_simp
                            with_reducible rfl
                          rotate_left
                          · simp only [Act.put, List.setIfInBounds_toArray, List.set_cons_zero, List.set_cons_succ, i64_w, i32_w]
                            rfl
                          refine pure_ (i := 3) (N := some 76) (v := ?_) (a' := ?_) #[true, true, true, true, false, false, false, false, false, false, false, false, false, false, false, false, false, false, false, false, false, false, false, false, false] rfl rfl (any_of HT_.out (by kernel_rfl)) (fun _ _ _ h => h) (Or.inl ⟨by rfl, ?_⟩) ?_ ?_
                          rotate_left
                          · intro w'
                            go_simp
                            with_reducible rfl
                          rotate_left
                          · simp only [Act.put, List.setIfInBounds_toArray, List.set_cons_zero, List.set_cons_succ, i64_w, i32_w]
                            rfl
                          refine pure_ (i := 5) (N := some 78) (v := ?_) (a' := ?_) #[true, true, true, true, false, true, false, false, false, false, false, false, false, false, false, false, false, false, false, false, false, false, false, false, false] rfl rfl (any_of HT_.out (by kernel_rfl)) (fun _ _ _ h => h) (Or.inl ⟨by rfl, ?_⟩) ?_ ?_
                          rotate_left
                          · intro w'
                            go_simp
                            with_reducible rfl
                          rotate_left
                          · simp only [Act.put, List.setIfInBounds_toArray, List.set_cons_zero, List.set_cons_succ, i64_w, i32_w]
                            rfl
                          refine one_ (i := 4) (N := some 77) #[true, true, true, true, true, true, false, false, false, false, false, false, false, false, false, false, false, false, false, false, false, false, false, false, false] rfl rfl (one_of HT_.out (by kernel_rfl)) (by decide) (fun K hK => ?_)
                          refine goes_ Try.func20 (by kernel_rfl) rfl #[.pointer (some ⟨g229, 0, none⟩)] (by rfl) rfl rfl (by (try simp only [List.map_toArray, List.map_cons, List.map_nil]); first | done | rfl | (simp only [List.length_drop, List.length_take]; rfl)) ?_
                          with_reducible refine (pack_Reader_Left.calls g229 x230000_13 x230001_13 x230002_13 t262 t263 t264 t265 w _ ?side1 ?side2 A37.out).mono ?_
                          (case side1 => repeat (first | (with_reducible first | exact HI229.out | apply IsS54.alloc | apply IsS54.drewN | apply IsS54.drew | apply IsS54.set_0 | apply IsS54.set_1 | apply IsS54.set_2) | exact HI229.out))
                          (case side2 => repeat (first | (with_reducible first | exact HB.out | apply below_alloc | apply pw_below_drewN | apply below_drew1 | refine below_set ?_ (IsS54.ge HI229.out) | refine below_set ?_ (IsS40.ge HI230.out)) | exact HB.out))
                          rintro e w62 ⟨rfl, hi, hb, hk⟩
                          refine ⟨_, rfl, ?_⟩
                          have n0_ := Aside0.mk ((show IsS40 w _ gb230 x231000_13 x231001_13 from ⟨KeepBut.blk hk (show IsS40 w _ gb230 x231000_13 x231001_13 from by repeat (first | (with_reducible first | exact HI230.out | apply IsS40.alloc | apply IsS40.drewN | apply IsS40.drew | apply IsS40.set_0 | apply IsS40.set_1) | exact HI230.out)).1 (IsS54.ne_blk (show IsS54 w _ g229 x230000_13 x230001_13 x230002_13 from by repeat (first | (with_reducible first | exact HI229.out | apply IsS54.alloc | apply IsS54.drewN | apply IsS54.drew | apply IsS54.set_0 | apply IsS54.set_1 | apply IsS54.set_2) | exact HI229.out)) (show IsS40 w _ gb230 x231000_13 x231001_13 from by repeat (first | (with_reducible first | exact HI230.out | apply IsS40.alloc | apply IsS40.drewN | apply IsS40.drew | apply IsS40.set_0 | apply IsS40.set_1) | exact HI230.out)).1 (by decide)).symm (by simp), (show IsS40 w _ gb230 x231000_13 x231001_13 from by repeat (first | (with_reducible first | exact HI230.out | apply IsS40.alloc | apply IsS40.drewN | apply IsS40.drew | apply IsS40.set_0 | apply IsS40.set_1) | exact HI230.out)).2⟩))
                          have n1_ := Aside0.mk (hb)
                          have n2_ := Aside0.mk (hi)
                          clear HI230
                          clear HB
                          clear HI229
                          have HI230 := n0_
                          have HB := n1_
                          have HI229 := n2_
                          clear n0_ n1_ n2_
                          (try clear hb)
                          (try clear hb2)
                          (try clear hk)
                          (try clear hi)
                          refine hK.out _ _ trivial (fun hHeld => ?_)
                          clear hK K
                          refine norm_ (a' := ?_) ?_ ?_
                          rotate_left
                          · show Act.put _ (some 77) _ = _
                            simp only [Act.put, List.setIfInBounds_toArray, List.set_cons_zero, List.set_cons_succ, i64_w, i32_w]
                            rfl
                          refine one_ (i := 6) (N := some 79) #[true, true, true, true, true, true, true, false, false, false, false, false, false, false, false, false, false, false, false, false, false, false, false, false, false] rfl rfl (one_of HT_.out (by kernel_rfl)) (by decide) (fun K hK => ?_)
                          refine goes_ Try.func28 (by kernel_rfl) rfl #[.pointer (some ⟨gb230, 0, none⟩)] (by rfl) rfl rfl (by (try simp only [List.map_toArray, List.map_cons, List.map_nil]); first | done | rfl | (simp only [List.length_drop, List.length_take]; rfl)) ?_
                          with_reducible refine (coppiceref02_Reader_Left.calls gb230 x231000_13 x231001_13 t266 t267 t268 w _ ?side1 ?side2 A38.out).mono ?_
                          (case side1 => repeat (first | (with_reducible first | exact HI230.out | apply IsS40.alloc | apply IsS40.drewN | apply IsS40.drew | apply IsS40.set_0 | apply IsS40.set_1) | exact HI230.out))
                          (case side2 => repeat (first | (with_reducible first | exact HB.out | apply below_alloc | apply pw_below_drewN | apply below_drew1 | refine below_set ?_ (IsS54.ge HI229.out) | refine below_set ?_ (IsS40.ge HI230.out)) | exact HB.out))
                          rintro e w63 ⟨rfl, hi, hb, hk⟩
                          refine ⟨_, rfl, ?_⟩
                          (try rw [A38q.out.1] at hi); (try rw [A38q.out.2] at hi)
                          have n0_ := Aside0.mk ((show IsS54 w _ g229 t263 t264 t265 from ⟨KeepBut.blk hk (show IsS54 w _ g229 t263 t264 t265 from by repeat (first | (with_reducible first | exact HI229.out | apply IsS54.alloc | apply IsS54.drewN | apply IsS54.drew | apply IsS54.set_0 | apply IsS54.set_1 | apply IsS54.set_2) | exact HI229.out)).1 (IsS40.ne_blk (show IsS40 w _ gb230 x231000_13 x231001_13 from by repeat (first | (with_reducible first | exact HI230.out | apply IsS40.alloc | apply IsS40.drewN | apply IsS40.drew | apply IsS40.set_0 | apply IsS40.set_1) | exact HI230.out)) (show IsS54 w _ g229 t263 t264 t265 from by repeat (first | (with_reducible first | exact HI229.out | apply IsS54.alloc | apply IsS54.drewN | apply IsS54.drew | apply IsS54.set_0 | apply IsS54.set_1 | apply IsS54.set_2) | exact HI229.out)).1 (by decide)).symm (by simp), (show IsS54 w _ g229 t263 t264 t265 from by repeat (first | (with_reducible first | exact HI229.out | apply IsS54.alloc | apply IsS54.drewN | apply IsS54.drew | apply IsS54.set_0 | apply IsS54.set_1 | apply IsS54.set_2) | exact HI229.out)).2⟩))
                          have n1_ := Aside0.mk (hb)
                          have n2_ := Aside0.mk (hi)
                          clear HI229
                          clear HB
                          clear HI230
                          have HI229 := n0_
                          have HB := n1_
                          have HI230 := n2_
                          clear n0_ n1_ n2_
                          (try clear hb)
                          (try clear hb2)
                          (try clear hk)
                          (try clear hi)
                          refine hK.out _ _ trivial (fun hHeld => ?_)
                          clear hK K
                          refine norm_ (a' := ?_) ?_ ?_
                          rotate_left
                          · show Act.put _ (some 79) _ = _
                            simp only [Act.put, List.setIfInBounds_toArray, List.set_cons_zero, List.set_cons_succ, i64_w, i32_w]
                            rfl
                          refine pure_ (i := 7) (N := some 80) (v := ?_) (a' := ?_) #[true, true, true, true, true, true, true, true, false, false, false, false, false, false, false, false, false, false, false, false, false, false, false, false, false] rfl rfl (any_of HT_.out (by kernel_rfl)) (fun _ _ _ h => h) (Or.inl ⟨by rfl, ?_⟩) ?_ ?_
                          rotate_left
                          · intro w'
                            go_simp
                            with_reducible rfl
                          rotate_left
                          · simp only [Act.put, List.setIfInBounds_toArray, List.set_cons_zero, List.set_cons_succ, i64_w, i32_w]
                            rfl
                          refine pure_ (i := 8) (N := some 81) (v := ?_) (a' := ?_) #[true, true, true, true, true, true, true, true, true, false, false, false, false, false, false, false, false, false, false, false, false, false, false, false, false] rfl rfl (any_of HT_.out (by kernel_rfl)) (fun _ _ _ h => h) (Or.inl ⟨by rfl, ?_⟩) ?_ ?_
                          rotate_left
                          · intro w'
                            go_simp
                            with_reducible rfl
                          rotate_left
                          · simp only [Act.put, List.setIfInBounds_toArray, List.set_cons_zero, List.set_cons_succ, i64_w, i32_w]
                            rfl
                          refine pure_ (i := 9) (N := some 82) (v := ?_) (a' := ?_) #[true, true, true, true, true, true, true, true, true, true, false, false, false, false, false, false, false, false, false, false, false, false, false, false, false] rfl rfl (any_of HT_.out (by kernel_rfl)) (fun _ _ _ h => h) (Or.inl ⟨by rfl, ?_⟩) ?_ ?_
                          rotate_left
                          · intro w'
                            go_simp
                            with_reducible rfl
                          rotate_left
                          · simp only [Act.put, List.setIfInBounds_toArray, List.set_cons_zero, List.set_cons_succ, i64_w, i32_w]
                            rfl
                          refine pure_ (i := 10) (N := some 83) (v := undef) (a' := ?_) #[true, true, true, true, true, true, true, true, true, true, true, false, false, false, false, false, false, false, false, false, false, false, false, false, false] rfl rfl (any_of HT_.out (by kernel_rfl)) (fun _ _ _ h => h) (Or.inr ⟨by rfl, rfl⟩) ?_ ?_
                          rotate_left
                          · simp only [Act.put, List.setIfInBounds_toArray, List.set_cons_zero, List.set_cons_succ, i64_w, i32_w]
                            rfl
                          refine pure_ (i := 11) (N := some 84) (v := undef) (a' := ?_) #[true, true, true, true, true, true, true, true, true, true, true, true, false, false, false, false, false, false, false, false, false, false, false, false, false] rfl rfl (any_of HT_.out (by kernel_rfl)) (fun _ _ _ h => h) (Or.inr ⟨by rfl, rfl⟩) ?_ ?_
                          rotate_left
                          · simp only [Act.put, List.setIfInBounds_toArray, List.set_cons_zero, List.set_cons_succ, i64_w, i32_w]
                            rfl
                          refine pure_ (i := 12) (N := some 85) (v := undef) (a' := ?_) #[true, true, true, true, true, true, true, true, true, true, true, true, true, false, false, false, false, false, false, false, false, false, false, false, false] rfl rfl (any_of HT_.out (by kernel_rfl)) (fun _ _ _ h => h) (Or.inr ⟨by rfl, rfl⟩) ?_ ?_
                          rotate_left
                          · simp only [Act.put, List.setIfInBounds_toArray, List.set_cons_zero, List.set_cons_succ, i64_w, i32_w]
                            rfl
                          refine pure_ (i := 13) (N := some 86) (v := undef) (a' := ?_) #[true, true, true, true, true, true, true, true, true, true, true, true, true, true, false, false, false, false, false, false, false, false, false, false, false] rfl rfl (any_of HT_.out (by kernel_rfl)) (fun _ _ _ h => h) (Or.inr ⟨by rfl, rfl⟩) ?_ ?_
                          rotate_left
                          · simp only [Act.put, List.setIfInBounds_toArray, List.set_cons_zero, List.set_cons_succ, i64_w, i32_w]
                            rfl
                          refine pure_ (i := 14) (N := some 87) (v := undef) (a' := ?_) #[true, true, true, true, true, true, true, true, true, true, true, true, true, true, true, false, false, false, false, false, false, false, false, false, false] rfl rfl (any_of HT_.out (by kernel_rfl)) (fun _ _ _ h => h) (Or.inr ⟨by rfl, rfl⟩) ?_ ?_
                          rotate_left
                          · simp only [Act.put, List.setIfInBounds_toArray, List.set_cons_zero, List.set_cons_succ, i64_w, i32_w]
                            rfl
                          refine pure_ (i := 15) (N := some 88) (v := undef) (a' := ?_) #[true, true, true, true, true, true, true, true, true, true, true, true, true, true, true, true, false, false, false, false, false, false, false, false, false] rfl rfl (any_of HT_.out (by kernel_rfl)) (fun _ _ _ h => h) (Or.inr ⟨by rfl, rfl⟩) ?_ ?_
                          rotate_left
                          · simp only [Act.put, List.setIfInBounds_toArray, List.set_cons_zero, List.set_cons_succ, i64_w, i32_w]
                            rfl
                          refine pure_ (i := 16) (N := some 89) (v := undef) (a' := ?_) #[true, true, true, true, true, true, true, true, true, true, true, true, true, true, true, true, true, false, false, false, false, false, false, false, false] rfl rfl (any_of HT_.out (by kernel_rfl)) (fun _ _ _ h => h) (Or.inr ⟨by rfl, rfl⟩) ?_ ?_
                          rotate_left
                          · simp only [Act.put, List.setIfInBounds_toArray, List.set_cons_zero, List.set_cons_succ, i64_w, i32_w]
                            rfl
                          refine pure_ (i := 17) (N := some 90) (v := ?_) (a' := ?_) #[true, true, true, true, true, true, true, true, true, true, true, true, true, true, true, true, true, true, false, false, false, false, false, false, false] rfl rfl (any_of HT_.out (by kernel_rfl)) (fun _ _ _ h => h) (Or.inl ⟨by rfl, ?_⟩) ?_ ?_
                          rotate_left
                          · intro w'
                            go_simp
                            with_reducible rfl
                          rotate_left
                          · simp only [Act.put, List.setIfInBounds_toArray, List.set_cons_zero, List.set_cons_succ, i64_w, i32_w]
                            rfl
                          refine pure_ (i := 18) (N := some 91) (v := ?_) (a' := ?_) #[true, true, true, true, true, true, true, true, true, true, true, true, true, true, true, true, true, true, true, false, false, false, false, false, false] rfl rfl (any_of HT_.out (by kernel_rfl)) (fun _ _ _ h => h) (Or.inl ⟨by rfl, ?_⟩) ?_ ?_
                          rotate_left
                          · intro w'
                            go_simp
                            with_reducible rfl
                          rotate_left
                          · simp only [Act.put, List.setIfInBounds_toArray, List.set_cons_zero, List.set_cons_succ, i64_w, i32_w]
                            rfl
                          refine pure_ (i := 19) (N := some 92) (v := undef) (a' := ?_) #[true, true, true, true, true, true, true, true, true, true, true, true, true, true, true, true, true, true, true, true, false, false, false, false, false] rfl rfl (any_of HT_.out (by kernel_rfl)) (fun _ _ _ h => h) (Or.inr ⟨by rfl, rfl⟩) ?_ ?_
                          rotate_left
                          · simp only [Act.put, List.setIfInBounds_toArray, List.set_cons_zero, List.set_cons_succ, i64_w, i32_w]
                            rfl
                          refine pure_ (i := 20) (N := some 93) (v := undef) (a' := ?_) #[true, true, true, true, true, true, true, true, true, true, true, true, true, true, true, true, true, true, true, true, true, false, false, false, false] rfl rfl (any_of HT_.out (by kernel_rfl)) (fun _ _ _ h => h) (Or.inr ⟨by rfl, rfl⟩) ?_ ?_
                          rotate_left
                          · simp only [Act.put, List.setIfInBounds_toArray, List.set_cons_zero, List.set_cons_succ, i64_w, i32_w]
                            rfl
                          refine pure_ (i := 21) (N := some 94) (v := undef) (a' := ?_) #[true, true, true, true, true, true, true, true, true, true, true, true, true, true, true, true, true, true, true, true, true, true, false, false, false] rfl rfl (any_of HT_.out (by kernel_rfl)) (fun _ _ _ h => h) (Or.inr ⟨by rfl, rfl⟩) ?_ ?_
                          rotate_left
                          · simp only [Act.put, List.setIfInBounds_toArray, List.set_cons_zero, List.set_cons_succ, i64_w, i32_w]
                            rfl
                          refine pure_ (i := 22) (N := some 95) (v := undef) (a' := ?_) #[true, true, true, true, true, true, true, true, true, true, true, true, true, true, true, true, true, true, true, true, true, true, true, false, false] rfl rfl (any_of HT_.out (by kernel_rfl)) (fun _ _ _ h => h) (Or.inr ⟨by rfl, rfl⟩) ?_ ?_
                          rotate_left
                          · simp only [Act.put, List.setIfInBounds_toArray, List.set_cons_zero, List.set_cons_succ, i64_w, i32_w]
                            rfl
                          refine pure_ (i := 23) (N := some 96) (v := undef) (a' := ?_) #[true, true, true, true, true, true, true, true, true, true, true, true, true, true, true, true, true, true, true, true, true, true, true, true, false] rfl rfl (any_of HT_.out (by kernel_rfl)) (fun _ _ _ h => h) (Or.inr ⟨by rfl, rfl⟩) ?_ ?_
                          rotate_left
                          · simp only [Act.put, List.setIfInBounds_toArray, List.set_cons_zero, List.set_cons_succ, i64_w, i32_w]
                            rfl
                          refine pure_ (i := 24) (N := some 97) (v := ?_) (a' := ?_) #[true, true, true, true, true, true, true, true, true, true, true, true, true, true, true, true, true, true, true, true, true, true, true, true, true] rfl rfl (any_of HT_.out (by kernel_rfl)) (fun _ _ _ h => h) (Or.inl ⟨by rfl, ?_⟩) ?_ ?_
                          rotate_left
                          · intro w'
                            go_simp
                            with_reducible rfl
                          rotate_left
                          · simp only [Act.put, List.setIfInBounds_toArray, List.set_cons_zero, List.set_cons_succ, i64_w, i32_w]
                            rfl
                          refine done_ (done_of HT_.out (by kernel_rfl)) ?_
                          try go_wp2
                          go_ret
                          exact ⟨by first | rfl | (simp [errW_none, errW_some] <;> rfl) | (simp [*, errW_none, errW_some] <;> rfl), by repeat (first | (with_reducible first | exact HB.out | apply below_alloc | apply pw_below_drewN | apply below_drew1 | refine below_set ?_ (IsS54.ge HI229.out) | refine below_set ?_ (IsS40.ge HI230.out)) | exact HB.out)⟩
                      · replace c36 := Bool.eq_false_iff.mpr c36
                        subst c36
                        have H1 : (some false) = some r := by rw [if_neg (show ¬ (false = true) by decide)] at H; exact H
                        clear H
                        have H := H1
                        clear H1
                        obtain rfl := Option.some.inj H
                        try go_wp2
                        have n0_ := Aside0.mk (IsS54.drew HI229.out)
                        have n1_ := Aside0.mk (IsS40.drew HI230.out)
                        have n2_ := Aside0.mk (below_drew1 HB.out)
                        clear HI229
                        clear HI230
                        clear HB
                        have HI229 := n0_
                        have HI230 := n1_
                        have HB := n2_
                        clear n0_ n1_ n2_
                        refine start_ (n := 25) (S := fun w' => True) (ds := []) #[false, false, false, false, false, false, false, false, false, false, false, false, false, false, false, false, false, false, false, false, false, false, false, false, false] (by kernel_rfl) rfl rfl trivial (fun hHeld => ?_); refine with_tabW coppicelaw02_PackReads.tab19 coppicelaw02_PackReads.bits19 (fun HT_ HW_ => ?_)
                        generalize wc.drew = w64 at HI229 HI230 HB hHeld ⊢
                        refine pure_ (i := 0) (N := some 73) (v := ?_) (a' := ?_) #[true, false, false, false, false, false, false, false, false, false, false, false, false, false, false, false, false, false, false, false, false, false, false, false, false] rfl rfl (any_of HT_.out (by kernel_rfl)) (fun _ _ _ h => h) (Or.inl ⟨by rfl, ?_⟩) ?_ ?_
                        rotate_left
                        · intro w'
                          go_simp
                          with_reducible rfl
                        rotate_left
                        · simp only [Act.put, List.setIfInBounds_toArray, List.set_cons_zero, List.set_cons_succ, i64_w, i32_w]
                          rfl
                        refine pure_ (i := 1) (N := some 74) (v := ?_) (a' := ?_) #[true, true, false, false, false, false, false, false, false, false, false, false, false, false, false, false, false, false, false, false, false, false, false, false, false] rfl rfl (any_of HT_.out (by kernel_rfl)) (fun _ _ _ h => h) (Or.inl ⟨by rfl, ?_⟩) ?_ ?_
                        rotate_left
                        · intro w'
                          go_simp
                          with_reducible rfl
                        rotate_left
                        · simp only [Act.put, List.setIfInBounds_toArray, List.set_cons_zero, List.set_cons_succ, i64_w, i32_w]
                          rfl
                        refine pure_ (i := 2) (N := some 75) (v := ?_) (a' := ?_) #[true, true, true, false, false, false, false, false, false, false, false, false, false, false, false, false, false, false, false, false, false, false, false, false, false] rfl rfl (any_of HT_.out (by kernel_rfl)) (fun _ _ _ h => h) (Or.inl ⟨by rfl, ?_⟩) ?_ ?_
                        rotate_left
                        · intro w'
                          go_simp
                          with_reducible rfl
                        rotate_left
                        · simp only [Act.put, List.setIfInBounds_toArray, List.set_cons_zero, List.set_cons_succ, i64_w, i32_w]
                          rfl
                        refine pure_ (i := 3) (N := some 76) (v := undef) (a' := ?_) #[true, true, true, true, false, false, false, false, false, false, false, false, false, false, false, false, false, false, false, false, false, false, false, false, false] rfl rfl (any_of HT_.out (by kernel_rfl)) (fun _ _ _ h => h) (Or.inr ⟨by rfl, rfl⟩) ?_ ?_
                        rotate_left
                        · simp only [Act.put, List.setIfInBounds_toArray, List.set_cons_zero, List.set_cons_succ, i64_w, i32_w]
                          rfl
                        refine pure_ (i := 4) (N := some 77) (v := undef) (a' := ?_) #[true, true, true, true, true, false, false, false, false, false, false, false, false, false, false, false, false, false, false, false, false, false, false, false, false] rfl rfl (any_of HT_.out (by kernel_rfl)) (fun _ _ _ h => h) (Or.inr ⟨by rfl, rfl⟩) ?_ ?_
                        rotate_left
                        · simp only [Act.put, List.setIfInBounds_toArray, List.set_cons_zero, List.set_cons_succ, i64_w, i32_w]
                          rfl
                        refine pure_ (i := 5) (N := some 78) (v := undef) (a' := ?_) #[true, true, true, true, true, true, false, false, false, false, false, false, false, false, false, false, false, false, false, false, false, false, false, false, false] rfl rfl (any_of HT_.out (by kernel_rfl)) (fun _ _ _ h => h) (Or.inr ⟨by rfl, rfl⟩) ?_ ?_
                        rotate_left
                        · simp only [Act.put, List.setIfInBounds_toArray, List.set_cons_zero, List.set_cons_succ, i64_w, i32_w]
                          rfl
                        refine pure_ (i := 6) (N := some 79) (v := undef) (a' := ?_) #[true, true, true, true, true, true, true, false, false, false, false, false, false, false, false, false, false, false, false, false, false, false, false, false, false] rfl rfl (any_of HT_.out (by kernel_rfl)) (fun _ _ _ h => h) (Or.inr ⟨by rfl, rfl⟩) ?_ ?_
                        rotate_left
                        · simp only [Act.put, List.setIfInBounds_toArray, List.set_cons_zero, List.set_cons_succ, i64_w, i32_w]
                          rfl
                        refine pure_ (i := 7) (N := some 80) (v := undef) (a' := ?_) #[true, true, true, true, true, true, true, true, false, false, false, false, false, false, false, false, false, false, false, false, false, false, false, false, false] rfl rfl (any_of HT_.out (by kernel_rfl)) (fun _ _ _ h => h) (Or.inr ⟨by rfl, rfl⟩) ?_ ?_
                        rotate_left
                        · simp only [Act.put, List.setIfInBounds_toArray, List.set_cons_zero, List.set_cons_succ, i64_w, i32_w]
                          rfl
                        refine pure_ (i := 8) (N := some 81) (v := ?_) (a' := ?_) #[true, true, true, true, true, true, true, true, true, false, false, false, false, false, false, false, false, false, false, false, false, false, false, false, false] rfl rfl (any_of HT_.out (by kernel_rfl)) (fun _ _ _ h => h) (Or.inl ⟨by rfl, ?_⟩) ?_ ?_
                        rotate_left
                        · intro w'
                          go_simp
                          with_reducible rfl
                        rotate_left
                        · simp only [Act.put, List.setIfInBounds_toArray, List.set_cons_zero, List.set_cons_succ, i64_w, i32_w]
                          rfl
                        refine pure_ (i := 9) (N := some 82) (v := ?_) (a' := ?_) #[true, true, true, true, true, true, true, true, true, true, false, false, false, false, false, false, false, false, false, false, false, false, false, false, false] rfl rfl (any_of HT_.out (by kernel_rfl)) (fun _ _ _ h => h) (Or.inl ⟨by rfl, ?_⟩) ?_ ?_
                        rotate_left
                        · intro w'
                          go_simp
                          with_reducible rfl
                        rotate_left
                        · simp only [Act.put, List.setIfInBounds_toArray, List.set_cons_zero, List.set_cons_succ, i64_w, i32_w]
                          rfl
                        refine pure_ (i := 10) (N := some 83) (v := undef) (a' := ?_) #[true, true, true, true, true, true, true, true, true, true, true, false, false, false, false, false, false, false, false, false, false, false, false, false, false] rfl rfl (any_of HT_.out (by kernel_rfl)) (fun _ _ _ h => h) (Or.inr ⟨by rfl, rfl⟩) ?_ ?_
                        rotate_left
                        · simp only [Act.put, List.setIfInBounds_toArray, List.set_cons_zero, List.set_cons_succ, i64_w, i32_w]
                          rfl
                        refine pure_ (i := 11) (N := some 84) (v := undef) (a' := ?_) #[true, true, true, true, true, true, true, true, true, true, true, true, false, false, false, false, false, false, false, false, false, false, false, false, false] rfl rfl (any_of HT_.out (by kernel_rfl)) (fun _ _ _ h => h) (Or.inr ⟨by rfl, rfl⟩) ?_ ?_
                        rotate_left
                        · simp only [Act.put, List.setIfInBounds_toArray, List.set_cons_zero, List.set_cons_succ, i64_w, i32_w]
                          rfl
                        refine pure_ (i := 12) (N := some 85) (v := undef) (a' := ?_) #[true, true, true, true, true, true, true, true, true, true, true, true, true, false, false, false, false, false, false, false, false, false, false, false, false] rfl rfl (any_of HT_.out (by kernel_rfl)) (fun _ _ _ h => h) (Or.inr ⟨by rfl, rfl⟩) ?_ ?_
                        rotate_left
                        · simp only [Act.put, List.setIfInBounds_toArray, List.set_cons_zero, List.set_cons_succ, i64_w, i32_w]
                          rfl
                        refine pure_ (i := 13) (N := some 86) (v := undef) (a' := ?_) #[true, true, true, true, true, true, true, true, true, true, true, true, true, true, false, false, false, false, false, false, false, false, false, false, false] rfl rfl (any_of HT_.out (by kernel_rfl)) (fun _ _ _ h => h) (Or.inr ⟨by rfl, rfl⟩) ?_ ?_
                        rotate_left
                        · simp only [Act.put, List.setIfInBounds_toArray, List.set_cons_zero, List.set_cons_succ, i64_w, i32_w]
                          rfl
                        refine pure_ (i := 14) (N := some 87) (v := undef) (a' := ?_) #[true, true, true, true, true, true, true, true, true, true, true, true, true, true, true, false, false, false, false, false, false, false, false, false, false] rfl rfl (any_of HT_.out (by kernel_rfl)) (fun _ _ _ h => h) (Or.inr ⟨by rfl, rfl⟩) ?_ ?_
                        rotate_left
                        · simp only [Act.put, List.setIfInBounds_toArray, List.set_cons_zero, List.set_cons_succ, i64_w, i32_w]
                          rfl
                        refine pure_ (i := 15) (N := some 88) (v := undef) (a' := ?_) #[true, true, true, true, true, true, true, true, true, true, true, true, true, true, true, true, false, false, false, false, false, false, false, false, false] rfl rfl (any_of HT_.out (by kernel_rfl)) (fun _ _ _ h => h) (Or.inr ⟨by rfl, rfl⟩) ?_ ?_
                        rotate_left
                        · simp only [Act.put, List.setIfInBounds_toArray, List.set_cons_zero, List.set_cons_succ, i64_w, i32_w]
                          rfl
                        refine pure_ (i := 16) (N := some 89) (v := undef) (a' := ?_) #[true, true, true, true, true, true, true, true, true, true, true, true, true, true, true, true, true, false, false, false, false, false, false, false, false] rfl rfl (any_of HT_.out (by kernel_rfl)) (fun _ _ _ h => h) (Or.inr ⟨by rfl, rfl⟩) ?_ ?_
                        rotate_left
                        · simp only [Act.put, List.setIfInBounds_toArray, List.set_cons_zero, List.set_cons_succ, i64_w, i32_w]
                          rfl
                        refine pure_ (i := 17) (N := some 90) (v := ?_) (a' := ?_) #[true, true, true, true, true, true, true, true, true, true, true, true, true, true, true, true, true, true, false, false, false, false, false, false, false] rfl rfl (any_of HT_.out (by kernel_rfl)) (fun _ _ _ h => h) (Or.inl ⟨by rfl, ?_⟩) ?_ ?_
                        rotate_left
                        · intro w'
                          go_simp
                          with_reducible rfl
                        rotate_left
                        · simp only [Act.put, List.setIfInBounds_toArray, List.set_cons_zero, List.set_cons_succ, i64_w, i32_w]
                          rfl
                        refine pure_ (i := 18) (N := some 91) (v := ?_) (a' := ?_) #[true, true, true, true, true, true, true, true, true, true, true, true, true, true, true, true, true, true, true, false, false, false, false, false, false] rfl rfl (any_of HT_.out (by kernel_rfl)) (fun _ _ _ h => h) (Or.inl ⟨by rfl, ?_⟩) ?_ ?_
                        rotate_left
                        · intro w'
                          go_simp
                          with_reducible rfl
                        rotate_left
                        · simp only [Act.put, List.setIfInBounds_toArray, List.set_cons_zero, List.set_cons_succ, i64_w, i32_w]
                          rfl
                        refine pure_ (i := 19) (N := some 92) (v := undef) (a' := ?_) #[true, true, true, true, true, true, true, true, true, true, true, true, true, true, true, true, true, true, true, true, false, false, false, false, false] rfl rfl (any_of HT_.out (by kernel_rfl)) (fun _ _ _ h => h) (Or.inr ⟨by rfl, rfl⟩) ?_ ?_
                        rotate_left
                        · simp only [Act.put, List.setIfInBounds_toArray, List.set_cons_zero, List.set_cons_succ, i64_w, i32_w]
                          rfl
                        refine pure_ (i := 20) (N := some 93) (v := undef) (a' := ?_) #[true, true, true, true, true, true, true, true, true, true, true, true, true, true, true, true, true, true, true, true, true, false, false, false, false] rfl rfl (any_of HT_.out (by kernel_rfl)) (fun _ _ _ h => h) (Or.inr ⟨by rfl, rfl⟩) ?_ ?_
                        rotate_left
                        · simp only [Act.put, List.setIfInBounds_toArray, List.set_cons_zero, List.set_cons_succ, i64_w, i32_w]
                          rfl
                        refine pure_ (i := 21) (N := some 94) (v := undef) (a' := ?_) #[true, true, true, true, true, true, true, true, true, true, true, true, true, true, true, true, true, true, true, true, true, true, false, false, false] rfl rfl (any_of HT_.out (by kernel_rfl)) (fun _ _ _ h => h) (Or.inr ⟨by rfl, rfl⟩) ?_ ?_
                        rotate_left
                        · simp only [Act.put, List.setIfInBounds_toArray, List.set_cons_zero, List.set_cons_succ, i64_w, i32_w]
                          rfl
                        refine pure_ (i := 22) (N := some 95) (v := undef) (a' := ?_) #[true, true, true, true, true, true, true, true, true, true, true, true, true, true, true, true, true, true, true, true, true, true, true, false, false] rfl rfl (any_of HT_.out (by kernel_rfl)) (fun _ _ _ h => h) (Or.inr ⟨by rfl, rfl⟩) ?_ ?_
                        rotate_left
                        · simp only [Act.put, List.setIfInBounds_toArray, List.set_cons_zero, List.set_cons_succ, i64_w, i32_w]
                          rfl
                        refine pure_ (i := 23) (N := some 96) (v := undef) (a' := ?_) #[true, true, true, true, true, true, true, true, true, true, true, true, true, true, true, true, true, true, true, true, true, true, true, true, false] rfl rfl (any_of HT_.out (by kernel_rfl)) (fun _ _ _ h => h) (Or.inr ⟨by rfl, rfl⟩) ?_ ?_
                        rotate_left
                        · simp only [Act.put, List.setIfInBounds_toArray, List.set_cons_zero, List.set_cons_succ, i64_w, i32_w]
                          rfl
                        refine pure_ (i := 24) (N := some 97) (v := ?_) (a' := ?_) #[true, true, true, true, true, true, true, true, true, true, true, true, true, true, true, true, true, true, true, true, true, true, true, true, true] rfl rfl (any_of HT_.out (by kernel_rfl)) (fun _ _ _ h => h) (Or.inl ⟨by rfl, ?_⟩) ?_ ?_
                        rotate_left
                        · intro w'
                          go_simp
                          with_reducible rfl
                        rotate_left
                        · simp only [Act.put, List.setIfInBounds_toArray, List.set_cons_zero, List.set_cons_succ, i64_w, i32_w]
                          rfl
                        refine done_ (done_of HT_.out (by kernel_rfl)) ?_
                        try go_wp2
                        go_ret
                        exact ⟨by first | rfl | (simp [errW_none, errW_some] <;> rfl) | (simp [*, errW_none, errW_some] <;> rfl), by repeat (first | (with_reducible first | exact HB.out | apply below_alloc | apply pw_below_drewN | apply below_drew1 | refine below_set ?_ (IsS54.ge HI229.out) | refine below_set ?_ (IsS40.ge HI230.out)) | exact HB.out)⟩
                · rw [if_neg c13] at H
                  exact absurd H (by simp)
              · rw [if_neg c12] at H
                have c12b0 : decide (x7_2 < (l1.length : Int)) = false := decide_eq_false c12
                clear c12
                replace H := Option.bind_eq_some_iff.mp H
                obtain ⟨⟨t280, t281, t282, t283⟩, A650, H⟩ := H
                replace H : ((coppiceref02_Reader_Left.f x231000_2 x231001_2).bind fun bt284 => (if t280 = bt284.1 then ((pack_Reader_End.f t281 t282 t283).bind fun bt287 => ((coppiceref02_Reader_End.f x231000_2 x231001_2).bind fun bt291 => (some (bt287.1 == bt291.1)))) else (some false))) = some r := H
                have A65 := Aside0.mk A650
                clear A650
                replace H := Option.bind_eq_some_iff.mp H
                obtain ⟨⟨t284, t285, t286⟩, A660, H⟩ := H
                replace H : (if t280 = t284 then ((pack_Reader_End.f t281 t282 t283).bind fun bt287 => ((coppiceref02_Reader_End.f x231000_2 x231001_2).bind fun bt291 => (some (bt287.1 == bt291.1)))) else (some false)) = some r := H
                have A66 := Aside0.mk A660
                clear A660
                have A66q := Aside0.mk (show t285 = x231000_2 ∧ t286 = x231001_2 from by have h_ := A66.out; simp only [coppiceref02_Reader_Left.f] at h_; (repeat' split at h_) <;> cases h_ <;> exact ⟨rfl, rfl⟩)
                by_cases c67 : t280 = t284
                · rw [if_pos c67] at H
                  have c67b0 : (t280 == t284) = true := beq_iff_eq.mpr c67
                  have c67b1 : (t280 != t284) = false := bne_eq_false_iff_eq.mpr c67
                  clear c67
                  replace H := Option.bind_eq_some_iff.mp H
                  obtain ⟨⟨t287, t288, t289, t290⟩, A680, H⟩ := H
                  replace H : ((coppiceref02_Reader_End.f x231000_2 x231001_2).bind fun bt291 => (some (t287 == bt291.1))) = some r := H
                  have A68 := Aside0.mk A680
                  clear A680
                  replace H := Option.bind_eq_some_iff.mp H
                  obtain ⟨⟨t291, t292, t293⟩, A690, H⟩ := H
                  replace H : (some (t287 == t291)) = some r := H
                  have A69 := Aside0.mk A690
                  clear A690
                  have A69q := Aside0.mk (show t292 = x231000_2 ∧ t293 = x231001_2 from by have h_ := A69.out; simp only [coppiceref02_Reader_End.f] at h_; (repeat' split at h_) <;> cases h_ <;> exact ⟨rfl, rfl⟩)
                  obtain rfl := Option.some.inj H
                  go_wp2_with (first | ((with_reducible refine gate_callee (f := 20) rfl ?_); refine goesL_ (some 99) rfl rfl Try.func20 (by kernel_rfl) rfl #[.pointer (some ⟨g229, 0, none⟩)] rfl (by (try simp only [List.map_toArray, List.map_cons, List.map_nil]); first | done | rfl | (simp only [List.length_drop, List.length_take]; rfl)) ?_; (with_reducible refine (pack_Reader_Left.calls g229 x230000_2 x230001_2 x230002_2 t280 t281 t282 t283 w _ ?side1 ?side2 A65.out).mono ?_); (case side1 => repeat (first | (with_reducible first | exact HI229.out | apply IsS54.alloc | apply IsS54.drewN | apply IsS54.drew | apply IsS54.set_0 | apply IsS54.set_1 | apply IsS54.set_2) | exact HI229.out)); (case side2 => repeat (first | (with_reducible first | exact HB.out | apply below_alloc | apply pw_below_drewN | apply below_drew1 | refine below_set ?_ (IsS54.ge HI229.out) | refine below_set ?_ (IsS40.ge HI230.out)) | exact HB.out)); rintro e w70 ⟨rfl, hi, hb, hk⟩; refine ⟨_, rfl, ?_⟩; have n0_ := Aside0.mk ((show IsS40 w _ gb230 x231000_2 x231001_2 from ⟨KeepBut.blk hk (show IsS40 w _ gb230 x231000_2 x231001_2 from by repeat (first | (with_reducible first | exact HI230.out | apply IsS40.alloc | apply IsS40.drewN | apply IsS40.drew | apply IsS40.set_0 | apply IsS40.set_1) | exact HI230.out)).1 (IsS54.ne_blk (show IsS54 w _ g229 x230000_2 x230001_2 x230002_2 from by repeat (first | (with_reducible first | exact HI229.out | apply IsS54.alloc | apply IsS54.drewN | apply IsS54.drew | apply IsS54.set_0 | apply IsS54.set_1 | apply IsS54.set_2) | exact HI229.out)) (show IsS40 w _ gb230 x231000_2 x231001_2 from by repeat (first | (with_reducible first | exact HI230.out | apply IsS40.alloc | apply IsS40.drewN | apply IsS40.drew | apply IsS40.set_0 | apply IsS40.set_1) | exact HI230.out)).1 (by decide)).symm (by simp), (show IsS40 w _ gb230 x231000_2 x231001_2 from by repeat (first | (with_reducible first | exact HI230.out | apply IsS40.alloc | apply IsS40.drewN | apply IsS40.drew | apply IsS40.set_0 | apply IsS40.set_1) | exact HI230.out)).2⟩)); have n1_ := Aside0.mk (hb); have n2_ := Aside0.mk (hi); clear HI230; clear HB; clear HI229; have HI230 := n0_; have HB := n1_; have HI229 := n2_; clear n0_ n1_ n2_; (try clear hb); (try clear hb2); (try clear hk); (try clear hi)) | ((with_reducible refine gate_callee (f := 28) rfl ?_); refine goesL_ (some 101) rfl rfl Try.func28 (by kernel_rfl) rfl #[.pointer (some ⟨gb230, 0, none⟩)] rfl (by (try simp only [List.map_toArray, List.map_cons, List.map_nil]); first | done | rfl | (simp only [List.length_drop, List.length_take]; rfl)) ?_; (with_reducible refine (coppiceref02_Reader_Left.calls gb230 x231000_2 x231001_2 t284 t285 t286 w _ ?side1 ?side2 A66.out).mono ?_); (case side1 => repeat (first | (with_reducible first | exact HI230.out | apply IsS40.alloc | apply IsS40.drewN | apply IsS40.drew | apply IsS40.set_0 | apply IsS40.set_1) | exact HI230.out)); (case side2 => repeat (first | (with_reducible first | exact HB.out | apply below_alloc | apply pw_below_drewN | apply below_drew1 | refine below_set ?_ (IsS54.ge HI229.out) | refine below_set ?_ (IsS40.ge HI230.out)) | exact HB.out)); rintro e w71 ⟨rfl, hi, hb, hk⟩; refine ⟨_, rfl, ?_⟩; (try rw [A66q.out.1] at hi); (try rw [A66q.out.2] at hi); have n0_ := Aside0.mk ((show IsS54 w _ g229 t281 t282 t283 from ⟨KeepBut.blk hk (show IsS54 w _ g229 t281 t282 t283 from by repeat (first | (with_reducible first | exact HI229.out | apply IsS54.alloc | apply IsS54.drewN | apply IsS54.drew | apply IsS54.set_0 | apply IsS54.set_1 | apply IsS54.set_2) | exact HI229.out)).1 (IsS40.ne_blk (show IsS40 w _ gb230 x231000_2 x231001_2 from by repeat (first | (with_reducible first | exact HI230.out | apply IsS40.alloc | apply IsS40.drewN | apply IsS40.drew | apply IsS40.set_0 | apply IsS40.set_1) | exact HI230.out)) (show IsS54 w _ g229 t281 t282 t283 from by repeat (first | (with_reducible first | exact HI229.out | apply IsS54.alloc | apply IsS54.drewN | apply IsS54.drew | apply IsS54.set_0 | apply IsS54.set_1 | apply IsS54.set_2) | exact HI229.out)).1 (by decide)).symm (by simp), (show IsS54 w _ g229 t281 t282 t283 from by repeat (first | (with_reducible first | exact HI229.out | apply IsS54.alloc | apply IsS54.drewN | apply IsS54.drew | apply IsS54.set_0 | apply IsS54.set_1 | apply IsS54.set_2) | exact HI229.out)).2⟩)); have n1_ := Aside0.mk (hb); have n2_ := Aside0.mk (hi); clear HI229; clear HB; clear HI230; have HI229 := n0_; have HB := n1_; have HI230 := n2_; clear n0_ n1_ n2_; (try clear hb); (try clear hb2); (try clear hk); (try clear hi)) | (go_at_call 29; (with_reducible refine (pack_Reader_End.calls g229 t281 t282 t283 t287 t288 t289 t290 w _ ?side1 ?side2 A68.out).mono ?_); (case side1 => repeat (first | (with_reducible first | exact HI229.out | apply IsS54.alloc | apply IsS54.drewN | apply IsS54.drew | apply IsS54.set_0 | apply IsS54.set_1 | apply IsS54.set_2) | exact HI229.out)); (case side2 => repeat (first | (with_reducible first | exact HB.out | apply below_alloc | apply pw_below_drewN | apply below_drew1 | refine below_set ?_ (IsS54.ge HI229.out) | refine below_set ?_ (IsS40.ge HI230.out)) | exact HB.out)); rintro e w72 ⟨rfl, hi, hb, hk⟩; have n0_ := Aside0.mk ((show IsS40 w _ gb230 x231000_2 x231001_2 from ⟨KeepBut.blk hk (show IsS40 w _ gb230 x231000_2 x231001_2 from by repeat (first | (with_reducible first | exact HI230.out | apply IsS40.alloc | apply IsS40.drewN | apply IsS40.drew | apply IsS40.set_0 | apply IsS40.set_1) | exact HI230.out)).1 (IsS54.ne_blk (show IsS54 w _ g229 t281 t282 t283 from by repeat (first | (with_reducible first | exact HI229.out | apply IsS54.alloc | apply IsS54.drewN | apply IsS54.drew | apply IsS54.set_0 | apply IsS54.set_1 | apply IsS54.set_2) | exact HI229.out)) (show IsS40 w _ gb230 x231000_2 x231001_2 from by repeat (first | (with_reducible first | exact HI230.out | apply IsS40.alloc | apply IsS40.drewN | apply IsS40.drew | apply IsS40.set_0 | apply IsS40.set_1) | exact HI230.out)).1 (by decide)).symm (by simp), (show IsS40 w _ gb230 x231000_2 x231001_2 from by repeat (first | (with_reducible first | exact HI230.out | apply IsS40.alloc | apply IsS40.drewN | apply IsS40.drew | apply IsS40.set_0 | apply IsS40.set_1) | exact HI230.out)).2⟩)); have n1_ := Aside0.mk (hb); have n2_ := Aside0.mk (hi); clear HI230; clear HB; clear HI229; have HI230 := n0_; have HB := n1_; have HI229 := n2_; clear n0_ n1_ n2_; (try clear hb); (try clear hb2); (try clear hk); (try clear hi)) | (go_at_call 30; (with_reducible refine (coppiceref02_Reader_End.calls gb230 x231000_2 x231001_2 t291 t292 t293 w _ ?side1 ?side2 A69.out).mono ?_); (case side1 => repeat (first | (with_reducible first | exact HI230.out | apply IsS40.alloc | apply IsS40.drewN | apply IsS40.drew | apply IsS40.set_0 | apply IsS40.set_1) | exact HI230.out)); (case side2 => repeat (first | (with_reducible first | exact HB.out | apply below_alloc | apply pw_below_drewN | apply below_drew1 | refine below_set ?_ (IsS54.ge HI229.out) | refine below_set ?_ (IsS40.ge HI230.out)) | exact HB.out)); rintro e w73 ⟨rfl, hi, hb, hk⟩; (try rw [A69q.out.1] at hi); (try rw [A69q.out.2] at hi); have n0_ := Aside0.mk ((show IsS54 w _ g229 t288 t289 t290 from ⟨KeepBut.blk hk (show IsS54 w _ g229 t288 t289 t290 from by repeat (first | (with_reducible first | exact HI229.out | apply IsS54.alloc | apply IsS54.drewN | apply IsS54.drew | apply IsS54.set_0 | apply IsS54.set_1 | apply IsS54.set_2) | exact HI229.out)).1 (IsS40.ne_blk (show IsS40 w _ gb230 x231000_2 x231001_2 from by repeat (first | (with_reducible first | exact HI230.out | apply IsS40.alloc | apply IsS40.drewN | apply IsS40.drew | apply IsS40.set_0 | apply IsS40.set_1) | exact HI230.out)) (show IsS54 w _ g229 t288 t289 t290 from by repeat (first | (with_reducible first | exact HI229.out | apply IsS54.alloc | apply IsS54.drewN | apply IsS54.drew | apply IsS54.set_0 | apply IsS54.set_1 | apply IsS54.set_2) | exact HI229.out)).1 (by decide)).symm (by simp), (show IsS54 w _ g229 t288 t289 t290 from by repeat (first | (with_reducible first | exact HI229.out | apply IsS54.alloc | apply IsS54.drewN | apply IsS54.drew | apply IsS54.set_0 | apply IsS54.set_1 | apply IsS54.set_2) | exact HI229.out)).2⟩)); have n1_ := Aside0.mk (hb); have n2_ := Aside0.mk (hi); clear HI229; clear HB; clear HI230; have HI229 := n0_; have HB := n1_; have HI230 := n2_; clear n0_ n1_ n2_; (try clear hb); (try clear hb2); (try clear hk); (try clear hi)))
                  go_ret
                  exact ⟨by first | rfl | (simp [errW_none, errW_some] <;> rfl) | (simp [*, errW_none, errW_some] <;> rfl), by repeat (first | (with_reducible first | exact HB.out | apply below_alloc | apply pw_below_drewN | apply below_drew1 | refine below_set ?_ (IsS54.ge HI229.out) | refine below_set ?_ (IsS40.ge HI230.out)) | exact HB.out)⟩
                · rw [if_neg c67] at H
                  have c67b0 : (t280 == t284) = false := beq_eq_false_iff_ne.mpr c67
                  have c67b1 : (t280 != t284) = true := bne_iff_ne.mpr c67
                  obtain rfl := Option.some.inj H
                  go_wp2_with (first | ((with_reducible refine gate_callee (f := 20) rfl ?_); refine goesL_ (some 99) rfl rfl Try.func20 (by kernel_rfl) rfl #[.pointer (some ⟨g229, 0, none⟩)] rfl (by (try simp only [List.map_toArray, List.map_cons, List.map_nil]); first | done | rfl | (simp only [List.length_drop, List.length_take]; rfl)) ?_; (with_reducible refine (pack_Reader_Left.calls g229 x230000_2 x230001_2 x230002_2 t280 t281 t282 t283 w _ ?side1 ?side2 A65.out).mono ?_); (case side1 => repeat (first | (with_reducible first | exact HI229.out | apply IsS54.alloc | apply IsS54.drewN | apply IsS54.drew | apply IsS54.set_0 | apply IsS54.set_1 | apply IsS54.set_2) | exact HI229.out)); (case side2 => repeat (first | (with_reducible first | exact HB.out | apply below_alloc | apply pw_below_drewN | apply below_drew1 | refine below_set ?_ (IsS54.ge HI229.out) | refine below_set ?_ (IsS40.ge HI230.out)) | exact HB.out)); rintro e w74 ⟨rfl, hi, hb, hk⟩; refine ⟨_, rfl, ?_⟩; have n0_ := Aside0.mk ((show IsS40 w _ gb230 x231000_2 x231001_2 from ⟨KeepBut.blk hk (show IsS40 w _ gb230 x231000_2 x231001_2 from by repeat (first | (with_reducible first | exact HI230.out | apply IsS40.alloc | apply IsS40.drewN | apply IsS40.drew | apply IsS40.set_0 | apply IsS40.set_1) | exact HI230.out)).1 (IsS54.ne_blk (show IsS54 w _ g229 x230000_2 x230001_2 x230002_2 from by repeat (first | (with_reducible first | exact HI229.out | apply IsS54.alloc | apply IsS54.drewN | apply IsS54.drew | apply IsS54.set_0 | apply IsS54.set_1 | apply IsS54.set_2) | exact HI229.out)) (show IsS40 w _ gb230 x231000_2 x231001_2 from by repeat (first | (with_reducible first | exact HI230.out | apply IsS40.alloc | apply IsS40.drewN | apply IsS40.drew | apply IsS40.set_0 | apply IsS40.set_1) | exact HI230.out)).1 (by decide)).symm (by simp), (show IsS40 w _ gb230 x231000_2 x231001_2 from by repeat (first | (with_reducible first | exact HI230.out | apply IsS40.alloc | apply IsS40.drewN | apply IsS40.drew | apply IsS40.set_0 | apply IsS40.set_1) | exact HI230.out)).2⟩)); have n1_ := Aside0.mk (hb); have n2_ := Aside0.mk (hi); clear HI230; clear HB; clear HI229; have HI230 := n0_; have HB := n1_; have HI229 := n2_; clear n0_ n1_ n2_; (try clear hb); (try clear hb2); (try clear hk); (try clear hi)) | ((with_reducible refine gate_callee (f := 28) rfl ?_); refine goesL_ (some 101) rfl rfl Try.func28 (by kernel_rfl) rfl #[.pointer (some ⟨gb230, 0, none⟩)] rfl (by (try simp only [List.map_toArray, List.map_cons, List.map_nil]); first | done | rfl | (simp only [List.length_drop, List.length_take]; rfl)) ?_; (with_reducible refine (coppiceref02_Reader_Left.calls gb230 x231000_2 x231001_2 t284 t285 t286 w _ ?side1 ?side2 A66.out).mono ?_); (case side1 => repeat (first | (with_reducible first | exact HI230.out | apply IsS40.alloc | apply IsS40.drewN | apply IsS40.drew | apply IsS40.set_0 | apply IsS40.set_1) | exact HI230.out)); (case side2 => repeat (first | (with_reducible first | exact HB.out | apply below_alloc | apply pw_below_drewN | apply below_drew1 | refine below_set ?_ (IsS54.ge HI229.out) | refine below_set ?_ (IsS40.ge HI230.out)) | exact HB.out)); rintro e w75 ⟨rfl, hi, hb, hk⟩; refine ⟨_, rfl, ?_⟩; (try rw [A66q.out.1] at hi); (try rw [A66q.out.2] at hi); have n0_ := Aside0.mk ((show IsS54 w _ g229 t281 t282 t283 from ⟨KeepBut.blk hk (show IsS54 w _ g229 t281 t282 t283 from by repeat (first | (with_reducible first | exact HI229.out | apply IsS54.alloc | apply IsS54.drewN | apply IsS54.drew | apply IsS54.set_0 | apply IsS54.set_1 | apply IsS54.set_2) | exact HI229.out)).1 (IsS40.ne_blk (show IsS40 w _ gb230 x231000_2 x231001_2 from by repeat (first | (with_reducible first | exact HI230.out | apply IsS40.alloc | apply IsS40.drewN | apply IsS40.drew | apply IsS40.set_0 | apply IsS40.set_1) | exact HI230.out)) (show IsS54 w _ g229 t281 t282 t283 from by repeat (first | (with_reducible first | exact HI229.out | apply IsS54.alloc | apply IsS54.drewN | apply IsS54.drew | apply IsS54.set_0 | apply IsS54.set_1 | apply IsS54.set_2) | exact HI229.out)).1 (by decide)).symm (by simp), (show IsS54 w _ g229 t281 t282 t283 from by repeat (first | (with_reducible first | exact HI229.out | apply IsS54.alloc | apply IsS54.drewN | apply IsS54.drew | apply IsS54.set_0 | apply IsS54.set_1 | apply IsS54.set_2) | exact HI229.out)).2⟩)); have n1_ := Aside0.mk (hb); have n2_ := Aside0.mk (hi); clear HI229; clear HB; clear HI230; have HI229 := n0_; have HB := n1_; have HI230 := n2_; clear n0_ n1_ n2_; (try clear hb); (try clear hb2); (try clear hk); (try clear hi)))
                  go_ret
                  exact ⟨by first | rfl | (simp [errW_none, errW_some] <;> rfl) | (simp [*, errW_none, errW_some] <;> rfl), by repeat (first | (with_reducible first | exact HB.out | apply below_alloc | apply pw_below_drewN | apply below_drew1 | refine below_set ?_ (IsS54.ge HI229.out) | refine below_set ?_ (IsS40.ge HI230.out)) | exact HB.out)⟩
  · replace c4 := Bool.eq_false_iff.mpr c4
    subst c4
    have H1 : (some false) = some r := by rw [if_neg (show ¬ (false = true) by decide)] at H; exact H
    clear H
    have H := H1
    clear H1
    obtain rfl := Option.some.inj H
    go_enter Try.func6, Try.ntmps6
    go_wp2_with (first | ((with_reducible refine gate_callee (f := 10) rfl ?_); refine goesL_ (some 9) rfl rfl Try.func10 (by kernel_rfl) rfl #[] rfl (by (try simp only [List.map_toArray, List.map_cons, List.map_nil]); first | done | rfl | (simp only [List.length_drop, List.length_take]; rfl)) ?_; (with_reducible refine (coppicelaw02_awake.calls  false _ A3.out).mono ?_); rintro e w76 ⟨rfl, hb⟩; refine ⟨_, rfl, ?_⟩; have n0_ := Aside0.mk (below_step (by repeat (first | (with_reducible first | exact HB.out | apply below_alloc | apply pw_below_drewN | apply below_drew1) | exact HB.out)) hb); clear HB; have HB := n0_; clear n0_; (try clear hb); (try clear hb2); (try clear hk); (try clear hi)))
    go_ret
    exact ⟨by first | rfl | (simp [errW_none, errW_some] <;> rfl) | (simp [*, errW_none, errW_some] <;> rfl), by repeat (first | (with_reducible first | exact HB.out | apply below_alloc | apply pw_below_drewN | apply below_drew1) | exact HB.out)⟩

/-- The bounds of a value of struct type 42. -/
def wf42 (x : S42) : Prop := (Lit.int .i64 x.f0).wf = true ∧ (Lit.int .i64 x.f1).wf = true
/-- THE ONE PURE STATEMENT of coppicelaw02_PackReads. -/
def coppicelaw02_PackReads.Pure : Prop := ∀ (x0 : ByteArray) (x1 : List (S42)), x0.size ≤ 140737488351232 → (x1.length ≤ maxLen ∧ ∀ y0 ∈ x1, wf42 y0) → ∃ k, coppicelaw02_PackReads.f k x0 x1 = some true

end Go.Proofs.Ytlicdfipockgaaa.PA
