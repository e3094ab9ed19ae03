-- WRITTEN BY a program of this session (pp.sh)
import Derived.Test.YtofdpgcnconibaaGreatDoorPAx0
import Derived.Test.YtofdpgcnconibaaGreatDoorPAx3
import Derived.Test.YtofdpgcnconibaaGreatDoorPAx4
import Derived.Test.YtofdpgcnconibaaGreatDoorPAx5
set_option linter.unusedVariables false
set_option linter.unusedSimpArgs false
namespace Go.Proofs.YtofdpgcnconibaaGreatDoor.PA
open Go.RowKit Go.Proofs.YtofdpgcnconibaaGreatDoorW.PrintWords Go.Proofs.YtofdpgcnconibaaGreatDoorW.PrintLast Go.Proofs.YtofdpgcnconibaaGreatDoorW.PrintMore Go.Proofs.YtofdpgcnconibaaGreatDoor.Plain
attribute [local go_sem] max2_int min2_int max_two min_two max_three min_three max_four min_four binOp_leq_s binOp_gtr_s binOp_geq_s lit_byte   -- for this text's walks alone
set_option linter.unusedVariables false
set_option linter.unusedSimpArgs false

/-! ### path_names_1: function 92 -/
def path_names_1.f (a0 : ByteArray) : Option (Bool) := (path_Name.f a0).bind fun t128 => (some (!t128))
set_option maxHeartbeats 8000000 in
set_option maxRecDepth 100000 in
theorem path_names_1.calls (a0 : ByteArray) (r : Bool) (w : World) (h : path_names_1.f a0 = some r) :
  Calls Tryz.prog 92 #[.string a0] w fun e w' => e = .returned (.bool r) ∧ Below w.heap.size w w' := by
 have HB := Aside0.mk (Below.refl w.heap.size w)
 have H : ((path_Name.f a0).bind fun t128 => (some (!t128))) = some r := h
 clear h
 replace H := Option.bind_eq_some_iff.mp H
 obtain ⟨t128, A20, H⟩ := H
 replace H : (some (!t128)) = some r := H
 have A2 := Aside0.mk A20
 clear A20
 obtain rfl := Option.some.inj H
 go_enter Tryz.func92, Tryz.ntmps92
 go_wp2_with (first | ((with_reducible refine gate_callee (f := 48) rfl ?_); refine goesL_ (some 4) rfl rfl Tryz.func48 (by kernel_rfl) rfl #[.string a0] rfl (by (try simp only [List.map_toArray, List.map_cons, List.map_nil]); (rfl)) ?_; (with_reducible refine (path_Name.calls a0 t128 _ A2.out).mono ?_); rintro e w3 ⟨rfl, hb⟩; refine ⟨_, rfl, ?_⟩; have n0_ := Aside0.mk (below_step (by repeat (((with_reducible (exact HB.out))))) hb); clear HB; have HB := n0_; clear n0_; (try clear hb); (try clear hb2); (try clear hk); (try clear hi)))
 go_ret
 exact ⟨by (rfl), by repeat (((with_reducible (exact HB.out))))⟩

/-! ### slices_IndexFunc_string_path_names_1: function 97 -/
def slices_IndexFunc_string_path_names_1.l0 : Nat → List ByteArray → Int → Int → Option (Int)
 | 0, _, _, _ => none
 | k + 1, x0, x7, x8 => if x8 < x7 then (if 0 ≤ x8 then (if x8 < (x0.length : Int) then ((path_names_1.f (rdOf ByteArray.empty x0 x8)).bind fun t130 => (if t130 = true then (some x8) else (slices_IndexFunc_string_path_names_1.l0 k x0 x7 (wrap64 (x8 + 1))))) else (none)) else (none)) else (some (-1))
def slices_IndexFunc_string_path_names_1.f (k : Nat) (l0 : List ByteArray)  : Option (Int) := slices_IndexFunc_string_path_names_1.l0 k l0 (l0.length : Int) 0
set_option maxHeartbeats 8000000 in
set_option maxRecDepth 100000 in
theorem slices_IndexFunc_string_path_names_1.calls (k : Nat) (A0 : Option Addr) (c0 : Nat) (l0 : List ByteArray)  (r : Int) (w : World) (hr0 : Kd.C Kd.string w A0 l0.length l0) (hc0 : l0.length ≤ c0) (h : slices_IndexFunc_string_path_names_1.f k l0 = some r) :
  Calls Tryz.prog 97 #[.slice A0 l0.length c0, .func (.func 92) #[] #[]] w fun e w' => e = .returned (.int .i64 r) ∧ Below w.heap.size w w' := by
 have HR0 := Aside0.mk hr0
 have HC0 := Aside0.mk hc0
 clear hr0 hc0
 have HB := Aside0.mk (Below.refl w.heap.size w)
 have H : (slices_IndexFunc_string_path_names_1.l0 k l0 (l0.length : Int) 0) = some r := h
 clear h
 have H' := Aside0.mk H
 clear H
 go_enter Tryz.func97, Tryz.ntmps97
 go_wp2
 go_loopg [8] k (fun kq v8 w' => ∃ (x8_1 : Int), v8 = .int .i64 x8_1 ∧ Aside0 (slices_IndexFunc_string_path_names_1.l0 kq l0 (l0.length : Int) x8_1 = some r) ∧ Aside0 (kq ≤ k) ∧ Aside0 (Below w.heap.size w w'))
 case atStart => exact ⟨(0), (by (rfl)), H', ⟨Nat.le_refl _⟩, ⟨by repeat (((with_reducible (exact HB.out))))⟩⟩
 case round =>
  clear H'
  try clear p2
  obtain ⟨x8_1, rfl, HA, HK1, HB⟩ := hrel
  cases gk with
  | zero => exact absurd HA.out (by simp [slices_IndexFunc_string_path_names_1.l0])
  | succ k1 =>
   have H := HA.out
   clear HA
   simp only [slices_IndexFunc_string_path_names_1.l0] at H
   by_cases c3 : x8_1 < (l0.length : Int)
   ·rw [if_pos c3] at H
    have c3b0 : decide (x8_1 < (l0.length : Int)) = true := decide_eq_true c3
    clear c3
    by_cases c4 : 0 ≤ x8_1
    ·rw [if_pos c4] at H
     have c4b0 : decide (0 ≤ x8_1) = true := decide_eq_true c4
     clear c4
     by_cases c5 : x8_1 < (l0.length : Int)
     ·rw [if_pos c5] at H
      have c5b0 : decide (x8_1 < (l0.length : Int)) = true := decide_eq_true c5
      clear c5
      replace H := Option.bind_eq_some_iff.mp H
      obtain ⟨t130, A60, H⟩ := H
      replace H : (if t130 = true then (some x8_1) else (slices_IndexFunc_string_path_names_1.l0 k1 l0 (l0.length : Int) (wrap64 (x8_1 + 1)))) = some r := H
      have A6 := Aside0.mk A60
      clear A60
      by_cases c7 : t130 = true
      ·subst c7
       have H1 : (some x8_1) = some r := by rw [if_pos rfl] at H; exact H
       clear H
       have H := H1
       clear H1
       obtain rfl := Option.some.inj H
       have p129 : 0 ≤ (x8_1 : Int) := of_decide_eq_true (by ((with_reducible assumption)))
       have q129 : x8_1 < (l0.length : Int) := of_decide_eq_true (by ((with_reducible assumption)))
       obtain ⟨ad129, e129, hx129_0⟩ := Kd.at_string HR0.out x8_1 p129 q129
       cases e129
       replace hx129_0 := (HB.out.cell (World.block_lt_of_cell? w _ hx129_0)).trans hx129_0
       replace p129 := eq_true p129
       replace q129 := eq_true q129
       go_wp2_with (first | (go_at_call 92; (with_reducible refine (path_names_1.calls (rdOf ByteArray.empty l0 x8_1) true _ A6.out).mono ?_); rintro e w8 ⟨rfl, hb⟩; have n0_ := Aside0.mk (below_step (by repeat (((with_reducible (exact HB.out))))) hb); clear HB; have HB := n0_; clear n0_; (try clear hb); (try clear hb2); (try clear hk); (try clear hi)))
       go_ret
       exact ⟨by (rfl), by repeat (((with_reducible (exact HB.out))))⟩
      ·replace c7 := Bool.eq_false_iff.mpr c7
       subst c7
       have H1 : (slices_IndexFunc_string_path_names_1.l0 k1 l0 (l0.length : Int) (wrap64 (x8_1 + 1))) = some r := by rw [if_neg (show ¬ (false = true) by decide)] at H; exact H
       clear H
       have H := H1
       clear H1
       have H' := Aside0.mk H
       clear H
       have p129 : 0 ≤ (x8_1 : Int) := of_decide_eq_true (by ((with_reducible assumption)))
       have q129 : x8_1 < (l0.length : Int) := of_decide_eq_true (by ((with_reducible assumption)))
       obtain ⟨ad129, e129, hx129_0⟩ := Kd.at_string HR0.out x8_1 p129 q129
       cases e129
       replace hx129_0 := (HB.out.cell (World.block_lt_of_cell? w _ hx129_0)).trans hx129_0
       replace p129 := eq_true p129
       replace q129 := eq_true q129
       go_wp2_with (first | (go_at_call 92; (with_reducible refine (path_names_1.calls (rdOf ByteArray.empty l0 x8_1) false _ A6.out).mono ?_); rintro e w9 ⟨rfl, hb⟩; have n0_ := Aside0.mk (below_step (by repeat (((with_reducible (exact HB.out))))) hb); clear HB; have HB := n0_; clear n0_; (try clear hb); (try clear hb2); (try clear hk); (try clear hi)))
       go_roundg k1
       case measure => have := HK1.out; omega
       case rel => exact ⟨(wrap64 (x8_1 + 1)), (by (rfl)), H', ⟨by have := HK1.out; omega⟩, ⟨by repeat (((with_reducible (exact HB.out))))⟩⟩
     ·rw [if_neg c5] at H
      exact absurd H (by simp)
    ·rw [if_neg c4] at H
     exact absurd H (by simp)
   ·rw [if_neg c3] at H
    have c3b0 : decide (x8_1 < (l0.length : Int)) = false := decide_eq_false c3
    clear c3
    obtain rfl := Option.some.inj H
    go_wp2
    go_ret
    exact ⟨by (rfl), by repeat (((with_reducible (exact HB.out))))⟩

/-! ### slices_ContainsFunc_string_path_names_1: function 91 -/
def slices_ContainsFunc_string_path_names_1.f (k : Nat) (l0 : List ByteArray)  : Option (Bool) := (slices_IndexFunc_string_path_names_1.f k l0).bind fun t131 => (some (decide (t131 ≥ 0)))
set_option maxHeartbeats 8000000 in
set_option maxRecDepth 100000 in
theorem slices_ContainsFunc_string_path_names_1.calls (k : Nat) (A0 : Option Addr) (c0 : Nat) (l0 : List ByteArray)  (r : Bool) (w : World) (hr0 : Kd.C Kd.string w A0 l0.length l0) (hc0 : l0.length ≤ c0) (h : slices_ContainsFunc_string_path_names_1.f k l0 = some r) :
  Calls Tryz.prog 91 #[.slice A0 l0.length c0, .func (.func 92) #[] #[]] w fun e w' => e = .returned (.bool r) ∧ Below w.heap.size w w' := by
 have HR0 := Aside0.mk hr0
 have HC0 := Aside0.mk hc0
 clear hr0 hc0
 have HB := Aside0.mk (Below.refl w.heap.size w)
 have H : ((slices_IndexFunc_string_path_names_1.f k l0).bind fun t131 => (some (decide (t131 ≥ 0)))) = some r := h
 clear h
 replace H := Option.bind_eq_some_iff.mp H
 obtain ⟨t131, A30, H⟩ := H
 replace H : (some (decide (t131 ≥ 0))) = some r := H
 have A3 := Aside0.mk A30
 clear A30
 obtain rfl := Option.some.inj H
 go_enter Tryz.func91, Tryz.ntmps91
 go_wp2_with (first | ((with_reducible refine gate_callee (f := 97) rfl ?_); refine goesL_ (some 7) rfl rfl Tryz.func97 (by kernel_rfl) rfl #[.slice A0 l0.length c0, .func (.func 92) #[] #[]] rfl (by (try simp only [List.map_toArray, List.map_cons, List.map_nil]); (rfl)) ?_; (with_reducible refine (slices_IndexFunc_string_path_names_1.calls k _ _ l0  t131 _ ?side1 ?side2 A3.out).mono ?_); (case side1 => repeat ((exact HR0.out))); (case side2 => exact HC0.out); rintro e w4 ⟨rfl, hb⟩; refine ⟨_, rfl, ?_⟩; have n0_ := Aside0.mk (below_step (by repeat (((with_reducible (exact HB.out))))) hb); clear HB; have HB := n0_; clear n0_; (try clear hb); (try clear hb2); (try clear hk); (try clear hi)))
 go_ret
 exact ⟨by (rfl), by repeat (((with_reducible (exact HB.out))))⟩

/-! ### path_names_path_loosely: function 81 -/
def path_names_path_loosely.j0 : Nat → ByteArray → Bool → Option (List ByteArray × Int)
 | 0, _, _ => none
 | k + 1, x8, x25 => if x25 = true then (some (([] : List ByteArray), 120)) else ((strings_Split.f k x8 (⟨#[47]⟩ : ByteArray)).bind fun t134 => (if (t134.length : Int) > 32 then (some (([] : List ByteArray), 120)) else (if 0 < (t134.length : Int) then ((path_loosely.f (rdOf ByteArray.empty t134 0)).bind fun t138 => (if t138 = true then (if 1 ≤ (t134.length : Int) then ((slices_ContainsFunc_string_path_names_1.f k (t134.drop 1)).bind fun t143 => (if t143 = true then (some (([] : List ByteArray), 120)) else (some (t134, 0)))) else (none)) else (some (([] : List ByteArray), 120)))) else (none))))
def path_names_path_loosely.f (k : Nat) (a0 : ByteArray) (a1 : Int)  : Option (List ByteArray × Int) := if a0.toList = ([47] : List UInt8) then (some (([] : List ByteArray), 0)) else ((strings_CutPrefix.f a0 (⟨#[47]⟩ : ByteArray)).bind fun bt132 => (if bt132.2 = true then (path_names_path_loosely.j0 k bt132.1 (decide ((a0.size : Int) > a1))) else (path_names_path_loosely.j0 k bt132.1 true)))
set_option maxHeartbeats 8000000 in
set_option maxRecDepth 100000 in
theorem path_names_path_loosely.calls (k : Nat) (a0 : ByteArray) (a1 : Int)  (r1 : List ByteArray) (r2 : Int) (w : World) (hT : Tabs w) (h : path_names_path_loosely.f k a0 a1 = some (r1, r2)) :
  Calls Tryz.prog 81 #[.string a0, .int .i64 a1, .func (.func 82) #[] #[]] w fun e w' => ∃ v0_ : Value, e = .returned (.tuple #[v0_, .int .i64 r2]) ∧ Kd.R Kd.string 9 w' w.heap.size (fun _ => True) v0_ r1 ∧ Below w.heap.size w w' := by
 have HB := Aside0.mk (Below.refl w.heap.size w)
 have H : (if a0.toList = ([47] : List UInt8) then (some (([] : List ByteArray), 0)) else ((strings_CutPrefix.f a0 (⟨#[47]⟩ : ByteArray)).bind fun bt132 => (if bt132.2 = true then (path_names_path_loosely.j0 k bt132.1 (decide ((a0.size : Int) > a1))) else (path_names_path_loosely.j0 k bt132.1 true)))) = some (r1, r2) := h
 clear h
 by_cases c4 : a0.toList = ([47] : List UInt8)
 ·rw [if_pos c4] at H
  have c4b0 : (a0.toList == ([47] : List UInt8)) = true := beq_iff_eq.mpr c4
  have c4b1 : (a0.toList != ([47] : List UInt8)) = false := bne_eq_false_iff_eq.mpr c4
  clear c4
  simp only [Option.some.injEq, Prod.mk.injEq] at H
  obtain ⟨rfl, rfl⟩ := H
  go_enter Tryz.func81, Tryz.ntmps81
  go_wp2
  go_ret2
  exact ⟨_, by (rfl), by (exact Kd.R_nil _ _ _ _ _), by repeat (((with_reducible (exact HB.out))))⟩
 ·rw [if_neg c4] at H
  have c4b0 : (a0.toList == ([47] : List UInt8)) = false := beq_eq_false_iff_ne.mpr c4
  have c4b1 : (a0.toList != ([47] : List UInt8)) = true := bne_iff_ne.mpr c4
  replace H := Option.bind_eq_some_iff.mp H
  obtain ⟨⟨t132, t133⟩, A50, H⟩ := H
  replace H : (if t133 = true then (path_names_path_loosely.j0 k t132 (decide ((a0.size : Int) > a1))) else (path_names_path_loosely.j0 k t132 true)) = some (r1, r2) := H
  have A5 := Aside0.mk A50
  clear A50
  have HC6 := Aside0.mk H
  clear H
  go_enter Tryz.func81, Tryz.ntmps81
  go_upto_region 4 with (first | ((with_reducible refine gate_callee (f := 89) rfl ?_); refine goesL_ (some 15) rfl rfl Tryz.func89 (by kernel_rfl) rfl #[.string a0, .string (⟨#[47]⟩ : ByteArray)] rfl (by (try simp only [List.map_toArray, List.map_cons, List.map_nil]); (rfl)) ?_; (with_reducible refine (strings_CutPrefix.calls a0 (⟨#[47]⟩ : ByteArray) t132 t133 _ A5.out).mono ?_); rintro e w' ⟨rfl, ⟨nd, rfl⟩⟩; refine ⟨_, rfl, ?_⟩))
  (try simp only [Act.put, List.setIfInBounds_toArray, List.set_cons_zero, List.set_cons_succ])
  go_cut [25] (fun v25 wc => ∃ (kq : Nat) (x25_5 : Bool), v25 = .bool x25_5 ∧ Aside0 (path_names_path_loosely.j0 kq t132 x25_5 = some (r1, r2)) ∧ Aside0 (kq ≤ k) ∧ Aside0 (Below w.heap.size w wc))
  case first =>
   have H := HC6.out
   clear HC6
   by_cases c7 : t133 = true
   ·subst c7
    have H1 : (path_names_path_loosely.j0 k t132 (decide ((a0.size : Int) > a1))) = some (r1, r2) := by rw [if_pos rfl] at H; exact H
    clear H
    have H := H1
    clear H1
    have H' := Aside0.mk H
    clear H
    go_wp2
    go_meet
    case rel => exact ⟨_, (decide ((a0.size : Int) > a1)), (by (rfl)), H', ⟨by (omega)⟩, ⟨by repeat (((with_reducible first | exact HB.out | apply pw_below_drewN )))⟩⟩
   ·replace c7 := Bool.eq_false_iff.mpr c7
    subst c7
    have H1 : (path_names_path_loosely.j0 k t132 true) = some (r1, r2) := by rw [if_neg (show ¬ (false = true) by decide)] at H; exact H
    clear H
    have H := H1
    clear H1
    have H' := Aside0.mk H
    clear H
    go_wp2
    go_meet
    case rel => exact ⟨_, (true), (by (rfl)), H', ⟨by (omega)⟩, ⟨by repeat (((with_reducible first | exact HB.out | apply pw_below_drewN )))⟩⟩
  case rest =>
   clear HC6
   try clear p2
   try clear c4
   try clear c4b0
   try clear c4b1
   try clear c7
   obtain ⟨kq, x25_5, rfl, HA, HJ5, HB⟩ := hcut
   cases kq with
   | zero => exact absurd HA.out (by simp [path_names_path_loosely.j0])
   | succ kj5 =>
    have H := HA.out
    clear HA
    simp only [path_names_path_loosely.j0] at H
    by_cases c8 : x25_5 = true
    ·subst c8
     have H1 : (some (([] : List ByteArray), 120)) = some (r1, r2) := by rw [if_pos rfl] at H; exact H
     clear H
     have H := H1
     clear H1
     simp only [Option.some.injEq, Prod.mk.injEq] at H
     obtain ⟨rfl, rfl⟩ := H
     go_wp2
     go_ret2
     exact ⟨_, by (rfl), by (exact Kd.R_nil _ _ _ _ _), by repeat (((with_reducible (exact HB.out))))⟩
    ·replace c8 := Bool.eq_false_iff.mpr c8
     subst c8
     have H1 : ((strings_Split.f kj5 t132 (⟨#[47]⟩ : ByteArray)).bind fun t134 => (if (t134.length : Int) > 32 then (some (([] : List ByteArray), 120)) else (if 0 < (t134.length : Int) then ((path_loosely.f (rdOf ByteArray.empty t134 0)).bind fun t138 => (if t138 = true then (if 1 ≤ (t134.length : Int) then ((slices_ContainsFunc_string_path_names_1.f kj5 (t134.drop 1)).bind fun t143 => (if t143 = true then (some (([] : List ByteArray), 120)) else (some (t134, 0)))) else (none)) else (some (([] : List ByteArray), 120)))) else (none)))) = some (r1, r2) := by rw [if_neg (show ¬ (false = true) by decide)] at H; exact H
     clear H
     have H := H1
     clear H1
     replace H := Option.bind_eq_some_iff.mp H
     obtain ⟨t134, A90, H⟩ := H
     replace H : (if (t134.length : Int) > 32 then (some (([] : List ByteArray), 120)) else (if 0 < (t134.length : Int) then ((path_loosely.f (rdOf ByteArray.empty t134 0)).bind fun t138 => (if t138 = true then (if 1 ≤ (t134.length : Int) then ((slices_ContainsFunc_string_path_names_1.f kj5 (t134.drop 1)).bind fun t143 => (if t143 = true then (some (([] : List ByteArray), 120)) else (some (t134, 0)))) else (none)) else (some (([] : List ByteArray), 120)))) else (none))) = some (r1, r2) := H
     have A9 := Aside0.mk A90
     clear A90
     by_cases c10 : (t134.length : Int) > 32
     ·rw [if_pos c10] at H
      have c10b0 : decide (32 < (t134.length : Int)) = true := decide_eq_true c10
      have c10b1 : decide (32 < t134.length) = true := decide_eq_true (by omega)
      clear c10
      simp only [Option.some.injEq, Prod.mk.injEq] at H
      obtain ⟨rfl, rfl⟩ := H
      go_wp2_with (first | ((with_reducible refine gate_callee (f := 90) rfl ?_); refine goesL_ (some 27) rfl rfl Tryz.func90 (by kernel_rfl) rfl #[.string t132, .string (⟨#[47]⟩ : ByteArray)] rfl (by (try simp only [List.map_toArray, List.map_cons, List.map_nil]); (rfl)) ?_; (with_reducible refine (strings_Split.calls kj5 t132 (⟨#[47]⟩ : ByteArray) t134 _ A9.out).mono ?_); rintro e w11 ⟨v135, rfl, ho0, hb⟩; refine ⟨_, rfl, ?_⟩; have n0_ := Aside0.mk (Kd.R_lower ho0 (below_size (by repeat (((with_reducible (exact HB.out))))))); have n1_ := Aside0.mk (below_step (by repeat (((with_reducible (exact HB.out))))) hb); clear HB; have HO136 := n0_; have HB := n1_; clear n0_ n1_; (try clear hb); (try clear hb2); (try clear hk); (try clear hi); (try clear ho0); obtain ⟨Ao12, co12, eo12⟩ := Kd.R_slice HO136.out; subst eo12))
      go_ret2
      exact ⟨_, by (rfl), by (exact Kd.R_nil _ _ _ _ _), by repeat (((with_reducible (exact HB.out))))⟩
     ·rw [if_neg c10] at H
      have c10b0 : decide (32 < (t134.length : Int)) = false := decide_eq_false c10
      have c10b1 : decide (32 < t134.length) = false := decide_eq_false (by omega)
      clear c10
      by_cases c13 : 0 < (t134.length : Int)
      ·rw [if_pos c13] at H
       have c13b0 : decide (0 < (t134.length : Int)) = true := decide_eq_true c13
       have c13b1 : decide (0 < t134.length) = true := decide_eq_true (by omega)
       clear c13
       replace H := Option.bind_eq_some_iff.mp H
       obtain ⟨t138, A140, H⟩ := H
       replace H : (if t138 = true then (if 1 ≤ (t134.length : Int) then ((slices_ContainsFunc_string_path_names_1.f kj5 (t134.drop 1)).bind fun t143 => (if t143 = true then (some (([] : List ByteArray), 120)) else (some (t134, 0)))) else (none)) else (some (([] : List ByteArray), 120))) = some (r1, r2) := H
       have A14 := Aside0.mk A140
       clear A140
       by_cases c15 : t138 = true
       ·subst c15
        have H1 : (if 1 ≤ (t134.length : Int) then ((slices_ContainsFunc_string_path_names_1.f kj5 (t134.drop 1)).bind fun t143 => (if t143 = true then (some (([] : List ByteArray), 120)) else (some (t134, 0)))) else (none)) = some (r1, r2) := by rw [if_pos rfl] at H; exact H
        clear H
        have H := H1
        clear H1
        by_cases c16 : 1 ≤ (t134.length : Int)
        ·rw [if_pos c16] at H
         have c16b0 := eq_true c16
         have c16b1 : decide (1 ≤ (t134.length : Int)) = true := decide_eq_true c16
         clear c16
         obtain ⟨y139, hy139⟩ : ∃ y_ : List ByteArray, y_ = (t134.drop 1) := ⟨_, rfl⟩
         replace H : ((slices_ContainsFunc_string_path_names_1.f kj5 y139).bind fun t143 => (if t143 = true then (some (([] : List ByteArray), 120)) else (some (t134, 0)))) = some (r1, r2) := by ((rw [hy139]; with_reducible exact H))
         have Ny139 := Aside0.mk hy139
         clear hy139
         replace H := Option.bind_eq_some_iff.mp H
         obtain ⟨t143, A170, H⟩ := H
         replace H : (if t143 = true then (some (([] : List ByteArray), 120)) else (some (t134, 0))) = some (r1, r2) := H
         have A17 := Aside0.mk A170
         clear A170
         by_cases c18 : t143 = true
         ·subst c18
          have H1 : (some (([] : List ByteArray), 120)) = some (r1, r2) := by rw [if_pos rfl] at H; exact H
          clear H
          have H := H1
          clear H1
          simp only [Option.some.injEq, Prod.mk.injEq] at H
          obtain ⟨rfl, rfl⟩ := H
          go_wp2_with (first | ((with_reducible refine gate_callee (f := 90) rfl ?_); refine goesL_ (some 27) rfl rfl Tryz.func90 (by kernel_rfl) rfl #[.string t132, .string (⟨#[47]⟩ : ByteArray)] rfl (by (try simp only [List.map_toArray, List.map_cons, List.map_nil]); (rfl)) ?_; (with_reducible refine (strings_Split.calls kj5 t132 (⟨#[47]⟩ : ByteArray) t134 _ A9.out).mono ?_); rintro e w19 ⟨v135, rfl, ho0, hb⟩; refine ⟨_, rfl, ?_⟩; have n0_ := Aside0.mk (Kd.R_lower ho0 (below_size (by repeat (((with_reducible (exact HB.out))))))); have n1_ := Aside0.mk (below_step (by repeat (((with_reducible (exact HB.out))))) hb); clear HB; have HO136 := n0_; have HB := n1_; clear n0_ n1_; (try clear hb); (try clear hb2); (try clear hk); (try clear hi); (try clear ho0); obtain ⟨Ao20, co20, eo20⟩ := Kd.R_slice HO136.out; subst eo20; have p137 : 0 ≤ (0 : Int) := (by omega); have q137 : 0 < (t134.length : Int) := of_decide_eq_true (by ((with_reducible assumption))); obtain ⟨ad137, e137, hx137_0⟩ := Kd.at_string (Kd.R_reads' HO136.out).2.2 0 p137 q137; cases e137; have qi137 : (0 < t134.length) = True := eq_true (by omega); (try rw [show ((0 : Int)).toNat = 0 from rfl] at hx137_0); (try rw [Addr.add_zero'] at hx137_0); replace p137 := eq_true p137; replace q137 := eq_true q137) | (go_at_call 82; (with_reducible refine (path_loosely.calls (rdOf ByteArray.empty t134 0) true _ ?side1 A14.out).mono ?_); (case side1 => exact Tabs.on hT (by repeat (((with_reducible (exact HB.out)))))); rintro e w21 ⟨rfl, hb⟩; have n0_ := Aside0.mk (Kd.R_below (by (with_reducible repeat (fail)); exact HO136.out) hb); have n1_ := Aside0.mk (below_step (by repeat (((with_reducible (exact HB.out))))) hb); clear HO136; clear HB; have HO136 := n0_; have HB := n1_; clear n0_ n1_; (try clear hb); (try clear hb2); (try clear hk); (try clear hi); have q22 : (1 : Int) ≤ ((t134.length : Int) : Int) := of_decide_eq_true (by ((with_reducible assumption))); obtain ⟨i022, hi022, _, hsz22, _⟩ := info_parts info9; have hroom22 : t134.length ≤ co20 := (Kd.R_reads' HO136.out).2.1; have hC22 : Kd.C Kd.string _ (some ad137) t134.length t134 := (Kd.R_reads' HO136.out).2.2; have hcut22 := cut_from (P := Tryz.prog) 119 9 .i64 Tryz.underlying119 hi022 1 hsz22 (some ad137) t134.length co20 1 (by omega) q22; have hr22 := Kd.C_drop (m := (1 : Int).toNat) (c := co20) hC22 (by omega) hroom22; obtain ⟨A22, hA22⟩ : ∃ A1, A1 = (if co20 = (1 : Int).toNat then (some ad137) else ((some ad137) : Option Addr).map (·.add ((1 : Int).toNat * 1))) := ⟨_, rfl⟩; obtain ⟨c22, hc22⟩ : ∃ c1, c1 = co20 - (1 : Int).toNat := ⟨_, rfl⟩; have hy22 : y139.length = t134.length - (1 : Int).toNat := (by rw [Ny139.out, List.length_drop] <;> omega); rw [show (t134).drop (1 : Int).toNat = y139 from Ny139.out.symm] at hr22; replace hr22 : Kd.C Kd.string _ A22 y139.length y139 := (by rw [hA22]; exact hr22); rw [← hy22, ← hA22, ← hc22] at hcut22; have HR142 := Aside0.mk hr22; have HC142 := Aside0.mk (show y139.length ≤ c22 from by rw [hy22, hc22]; exact Nat.sub_le_sub_right hroom22 _); clear hr22 hC22 hroom22 hi022 hsz22 hc22; have KY22 := Aside0.mk hy22; have KA22 := Aside0.mk hA22; clear hy22 hA22; have KL22 := Aside0.mk (show 1 ≤ t134.length from by omega); replace q22 := eq_true q22) | (go_at_call 91; (with_reducible refine (slices_ContainsFunc_string_path_names_1.calls kj5 _ _ y139  true _ ?side1 ?side2 A17.out).mono ?_); (case side1 => repeat ((exact (by repeat (((with_reducible exact HR142.out))))))); (case side2 => exact HC142.out); rintro e w23 ⟨rfl, hb⟩; have n0_ := Aside0.mk (Kd.R_below (by (with_reducible repeat (fail)); exact HO136.out) hb); have n1_ := Aside0.mk (Kd.C_below (by repeat (((with_reducible exact HR142.out)))) hb); have n2_ := Aside0.mk (below_step (by repeat (((with_reducible (exact HB.out))))) hb); clear HO136; clear HR142; clear HB; have HO136 := n0_; have HR142 := n1_; have HB := n2_; clear n0_ n1_ n2_; (try clear hb); (try clear hb2); (try clear hk); (try clear hi)))
          go_ret2
          exact ⟨_, by (rfl), by (exact Kd.R_nil _ _ _ _ _), by repeat (((with_reducible (exact HB.out))))⟩
         ·replace c18 := Bool.eq_false_iff.mpr c18
          subst c18
          have H1 : (some (t134, 0)) = some (r1, r2) := by rw [if_neg (show ¬ (false = true) by decide)] at H; exact H
          clear H
          have H := H1
          clear H1
          simp only [Option.some.injEq, Prod.mk.injEq] at H
          obtain ⟨rfl, rfl⟩ := H
          go_wp2_with (first | ((with_reducible refine gate_callee (f := 90) rfl ?_); refine goesL_ (some 27) rfl rfl Tryz.func90 (by kernel_rfl) rfl #[.string t132, .string (⟨#[47]⟩ : ByteArray)] rfl (by (try simp only [List.map_toArray, List.map_cons, List.map_nil]); (rfl)) ?_; (with_reducible refine (strings_Split.calls kj5 t132 (⟨#[47]⟩ : ByteArray) t134 _ A9.out).mono ?_); rintro e w24 ⟨v135, rfl, ho0, hb⟩; refine ⟨_, rfl, ?_⟩; have n0_ := Aside0.mk (Kd.R_lower ho0 (below_size (by repeat (((with_reducible (exact HB.out))))))); have n1_ := Aside0.mk (below_step (by repeat (((with_reducible (exact HB.out))))) hb); clear HB; have HO136 := n0_; have HB := n1_; clear n0_ n1_; (try clear hb); (try clear hb2); (try clear hk); (try clear hi); (try clear ho0); obtain ⟨Ao25, co25, eo25⟩ := Kd.R_slice HO136.out; subst eo25; have p137 : 0 ≤ (0 : Int) := (by omega); have q137 : 0 < (t134.length : Int) := of_decide_eq_true (by ((with_reducible assumption))); obtain ⟨ad137, e137, hx137_0⟩ := Kd.at_string (Kd.R_reads' HO136.out).2.2 0 p137 q137; cases e137; have qi137 : (0 < t134.length) = True := eq_true (by omega); (try rw [show ((0 : Int)).toNat = 0 from rfl] at hx137_0); (try rw [Addr.add_zero'] at hx137_0); replace p137 := eq_true p137; replace q137 := eq_true q137) | (go_at_call 82; (with_reducible refine (path_loosely.calls (rdOf ByteArray.empty t134 0) true _ ?side1 A14.out).mono ?_); (case side1 => exact Tabs.on hT (by repeat (((with_reducible (exact HB.out)))))); rintro e w26 ⟨rfl, hb⟩; have n0_ := Aside0.mk (Kd.R_below (by (with_reducible repeat (fail)); exact HO136.out) hb); have n1_ := Aside0.mk (below_step (by repeat (((with_reducible (exact HB.out))))) hb); clear HO136; clear HB; have HO136 := n0_; have HB := n1_; clear n0_ n1_; (try clear hb); (try clear hb2); (try clear hk); (try clear hi); have q27 : (1 : Int) ≤ ((t134.length : Int) : Int) := of_decide_eq_true (by ((with_reducible assumption))); obtain ⟨i027, hi027, _, hsz27, _⟩ := info_parts info9; have hroom27 : t134.length ≤ co25 := (Kd.R_reads' HO136.out).2.1; have hC27 : Kd.C Kd.string _ (some ad137) t134.length t134 := (Kd.R_reads' HO136.out).2.2; have hcut27 := cut_from (P := Tryz.prog) 119 9 .i64 Tryz.underlying119 hi027 1 hsz27 (some ad137) t134.length co25 1 (by omega) q27; have hr27 := Kd.C_drop (m := (1 : Int).toNat) (c := co25) hC27 (by omega) hroom27; obtain ⟨A27, hA27⟩ : ∃ A1, A1 = (if co25 = (1 : Int).toNat then (some ad137) else ((some ad137) : Option Addr).map (·.add ((1 : Int).toNat * 1))) := ⟨_, rfl⟩; obtain ⟨c27, hc27⟩ : ∃ c1, c1 = co25 - (1 : Int).toNat := ⟨_, rfl⟩; have hy27 : y139.length = t134.length - (1 : Int).toNat := (by rw [Ny139.out, List.length_drop] <;> omega); rw [show (t134).drop (1 : Int).toNat = y139 from Ny139.out.symm] at hr27; replace hr27 : Kd.C Kd.string _ A27 y139.length y139 := (by rw [hA27]; exact hr27); rw [← hy27, ← hA27, ← hc27] at hcut27; have HR142 := Aside0.mk hr27; have HC142 := Aside0.mk (show y139.length ≤ c27 from by rw [hy27, hc27]; exact Nat.sub_le_sub_right hroom27 _); clear hr27 hC27 hroom27 hi027 hsz27 hc27; have KY27 := Aside0.mk hy27; have KA27 := Aside0.mk hA27; clear hy27 hA27; have KL27 := Aside0.mk (show 1 ≤ t134.length from by omega); replace q27 := eq_true q27) | (go_at_call 91; (with_reducible refine (slices_ContainsFunc_string_path_names_1.calls kj5 _ _ y139  false _ ?side1 ?side2 A17.out).mono ?_); (case side1 => repeat ((exact (by repeat (((with_reducible exact HR142.out))))))); (case side2 => exact HC142.out); rintro e w28 ⟨rfl, hb⟩; have n0_ := Aside0.mk (Kd.R_below (by (with_reducible repeat (fail)); exact HO136.out) hb); have n1_ := Aside0.mk (Kd.C_below (by repeat (((with_reducible exact HR142.out)))) hb); have n2_ := Aside0.mk (below_step (by repeat (((with_reducible (exact HB.out))))) hb); clear HO136; clear HR142; clear HB; have HO136 := n0_; have HR142 := n1_; have HB := n2_; clear n0_ n1_ n2_; (try clear hb); (try clear hb2); (try clear hk); (try clear hi)))
          go_ret2
          exact ⟨_, by (rfl), by (with_reducible repeat (fail)); exact HO136.out, by repeat (((with_reducible (exact HB.out))))⟩
        ·rw [if_neg c16] at H
         exact absurd H (by simp)
       ·replace c15 := Bool.eq_false_iff.mpr c15
        subst c15
        have H1 : (some (([] : List ByteArray), 120)) = some (r1, r2) := by rw [if_neg (show ¬ (false = true) by decide)] at H; exact H
        clear H
        have H := H1
        clear H1
        simp only [Option.some.injEq, Prod.mk.injEq] at H
        obtain ⟨rfl, rfl⟩ := H
        go_wp2_with (first | ((with_reducible refine gate_callee (f := 90) rfl ?_); refine goesL_ (some 27) rfl rfl Tryz.func90 (by kernel_rfl) rfl #[.string t132, .string (⟨#[47]⟩ : ByteArray)] rfl (by (try simp only [List.map_toArray, List.map_cons, List.map_nil]); (rfl)) ?_; (with_reducible refine (strings_Split.calls kj5 t132 (⟨#[47]⟩ : ByteArray) t134 _ A9.out).mono ?_); rintro e w29 ⟨v135, rfl, ho0, hb⟩; refine ⟨_, rfl, ?_⟩; have n0_ := Aside0.mk (Kd.R_lower ho0 (below_size (by repeat (((with_reducible (exact HB.out))))))); have n1_ := Aside0.mk (below_step (by repeat (((with_reducible (exact HB.out))))) hb); clear HB; have HO136 := n0_; have HB := n1_; clear n0_ n1_; (try clear hb); (try clear hb2); (try clear hk); (try clear hi); (try clear ho0); obtain ⟨Ao30, co30, eo30⟩ := Kd.R_slice HO136.out; subst eo30; have p137 : 0 ≤ (0 : Int) := (by omega); have q137 : 0 < (t134.length : Int) := of_decide_eq_true (by ((with_reducible assumption))); obtain ⟨ad137, e137, hx137_0⟩ := Kd.at_string (Kd.R_reads' HO136.out).2.2 0 p137 q137; cases e137; have qi137 : (0 < t134.length) = True := eq_true (by omega); (try rw [show ((0 : Int)).toNat = 0 from rfl] at hx137_0); (try rw [Addr.add_zero'] at hx137_0); replace p137 := eq_true p137; replace q137 := eq_true q137) | (go_at_call 82; (with_reducible refine (path_loosely.calls (rdOf ByteArray.empty t134 0) false _ ?side1 A14.out).mono ?_); (case side1 => exact Tabs.on hT (by repeat (((with_reducible (exact HB.out)))))); rintro e w31 ⟨rfl, hb⟩; have n0_ := Aside0.mk (Kd.R_below (by (with_reducible repeat (fail)); exact HO136.out) hb); have n1_ := Aside0.mk (below_step (by repeat (((with_reducible (exact HB.out))))) hb); clear HO136; clear HB; have HO136 := n0_; have HB := n1_; clear n0_ n1_; (try clear hb); (try clear hb2); (try clear hk); (try clear hi)))
        go_ret2
        exact ⟨_, by (rfl), by (exact Kd.R_nil _ _ _ _ _), by repeat (((with_reducible (exact HB.out))))⟩
      ·rw [if_neg c13] at H
       exact absurd H (by simp)

end Go.Proofs.YtofdpgcnconibaaGreatDoor.PA
