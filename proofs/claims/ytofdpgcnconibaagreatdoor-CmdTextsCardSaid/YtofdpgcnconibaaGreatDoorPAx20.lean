-- WRITTEN BY a program of this session (pp.sh)
import Derived.Test.YtofdpgcnconibaaGreatDoorPAx0
set_option linter.unusedVariables false
set_option linter.unusedSimpArgs false
namespace Go.Proofs.YtofdpgcnconibaaGreatDoor.PA
open Go.RowKit Go.Proofs.YtofdpgcnconibaaGreatDoorW.PrintWords Go.Proofs.YtofdpgcnconibaaGreatDoorW.PrintLast Go.Proofs.YtofdpgcnconibaaGreatDoorW.PrintMore Go.Proofs.YtofdpgcnconibaaGreatDoor.Plain
attribute [local go_sem] max2_int min2_int max_two min_two max_three min_three max_four min_four binOp_leq_s binOp_gtr_s binOp_geq_s lit_byte   -- for this text's walks alone
set_option linter.unusedVariables false
set_option linter.unusedSimpArgs false

/-! ### coppiceref02_Short: function 27, by hand -/
def coppiceref02_Short.f (a0 : Int) : Option ByteArray := if 0 ≤ a0 ∧ a0 < 18446744073709551616 then some (strOfNums (shortNums 9 a0)) else none
def coppiceref02_Short.l : Nat → List Int → Int → Option ByteArray
  | 0, _, _ => none
  | k + 1, l, n => if n ≥ 128 then coppiceref02_Short.l k (l ++ [n % 128 + 128]) (n / 128) else some (strOfNums (l ++ [n]))
theorem coppiceref02_Short.l_eq : ∀ (k : Nat) (l : List Int) (n : Int), 0 ≤ n → n < 128 ^ k * 2 → coppiceref02_Short.l (k + 1) l n = some (strOfNums (l ++ shortNums k n))
  | 0, l, n, h0, h1 => by unfold coppiceref02_Short.l shortNums; rw [if_neg (by omega)]
  | k + 1, l, n, h0, h1 => by
    unfold coppiceref02_Short.l shortNums
    by_cases c : n ≥ 128
    · rw [if_pos c, if_pos (by omega), coppiceref02_Short.l_eq k _ _ (by omega) (by rw [Int.pow_succ] at h1; omega)]
      simp
    · rw [if_neg c, if_neg (by omega)]
set_option maxHeartbeats 4000000 in
set_option maxRecDepth 100000 in
theorem coppiceref02_Short.calls (a0 : Int) (r : ByteArray) (w : World) (h : coppiceref02_Short.f a0 = some r) :
    Calls Tryz.prog 27 #[.int .u64 a0] w fun e w' => e = .returned (.string r) ∧ Below w.heap.size w w' := by
  unfold coppiceref02_Short.f at h
  split at h
  case isFalse => cases h
  case isTrue hh =>
  have H' := Aside0.mk ((coppiceref02_Short.l_eq 9 [] a0 hh.1 (by omega)).trans h)
  have H0 := Aside0.mk hh
  clear h hh
  have HB := Aside0.mk (Below.refl w.heap.size w)
  go_enter Tryz.func27, Tryz.ntmps27
  go_wp2
  go_loopg [0, 3] 10 (fun kq v0 v3 w' => ∃ (x0_1 : Int) (x3_1 : List Int), v0 = .int .u64 x0_1 ∧ Aside0 (coppiceref02_Short.l kq x3_1 x0_1 = some r) ∧ Aside0 (kq ≤ 10) ∧ Aside0 (0 ≤ x0_1 ∧ x0_1 < 18446744073709551616 ∧ x3_1.length ≤ 10 - kq) ∧ Aside0 (Kd.R (Kd.int .u8) 5 w' w.heap.size (fun _ => True) v3 x3_1) ∧ Aside0 (Below w.heap.size w w'))
  case atStart => exact ⟨(a0), (([] : List Int)), rfl, H', ⟨Nat.le_refl _⟩, ⟨H0.out.1, H0.out.2, by simp⟩, ⟨Kd.R_nil _ _ _ _ _⟩, ⟨by repeat (((with_reducible (exact HB.out))))⟩⟩
  case round =>
    clear H'
    obtain ⟨x0_1, x3_1, rfl, HA, HK1, HBD, HO_3, HB⟩ := hrel
    cases gk with
    | zero => exact absurd HA.out (by simp [coppiceref02_Short.l])
    | succ k1 =>
      have H := HA.out
      clear HA
      simp only [coppiceref02_Short.l] at H
      obtain ⟨h0, h1, hlen⟩ := HBD.out
      have HLEN := Aside0.mk hlen
      clear hlen
      have hor := Aside0.mk (or128 (x0_1 % 256) (by omega) (by omega))
      have hmm : x0_1 % 256 % 128 = x0_1 % 128 := by omega
      rw [hmm] at hor
      clear hmm
      by_cases c2 : x0_1 ≥ 128
      · rw [if_pos c2] at H
        have c2b0 : decide (128 ≤ x0_1) = true := decide_eq_true c2
        clear c2
        obtain ⟨y109, hy109⟩ : ∃ y_ : List Int, y_ = (x3_1 ++ [Go.bits .or .u8 ((x0_1) % 256) 128]) := ⟨_, rfl⟩
        rw [← hor.out, ← hy109] at H
        have Ny109 := Aside0.mk hy109
        clear hy109
        have H' := Aside0.mk H
        clear H
        go_wp2_with (first | ((with_reducible refine gate_builtin (b := .append) (xs := #[.tmp 6, .tmp 10]) rfl ?_); at_builtin; refine Kd.R_append (Kd.int .u8) (w0 := w) w.heap.size rfl (.tmp 6) (.tmp 10) 61 5 (.int .u8 0) 1 rfl Tryz.underlying61 info5 rfl (by decide) (by omega) u3 x3_1 (Go.bits .or .u8 ((x0_1) % 256) 128) [.int .u8 (Go.bits .or .u8 ((x0_1) % 256) 128)] (fun _ => True) (fun _ => False) rfl rfl ?aP (fun _ hk => hk.elim) ?aF ?aO ?aB ?aS ?aL ?_; (case aP => exact rfl); (case aB => exact (by repeat (((with_reducible (exact HB.out)))))); (case aF => exact (fun _ _ => trivial)); (case aO => exact (by (with_reducible repeat (fail)); exact HO_3.out)); (case aS => exact (below_size (by repeat (((with_reducible (exact HB.out))))))); (case aL => have := HLEN.out; omega); intro v110 w4 ho hb hg hat; rw [← Ny109.out] at ho; have n0_ := Aside0.mk (hb); have n1_ := Aside0.mk (ho); clear HB; clear HO_3; have HB := n0_; have HO111 := n1_; clear n0_ n1_; clear ho hb hg hat))
        go_roundg k1
        case measure => have := HK1.out; omega
        case rel => exact ⟨(x0_1 / 128), (y109), rfl, H', ⟨by have := HK1.out; omega⟩, ⟨by omega, by omega, by have := HLEN.out; rw [Ny109.out]; simp only [List.length_append, List.length_singleton]; have := HK1.out; omega⟩, ⟨by (with_reducible repeat (fail)); exact HO111.out⟩, ⟨by repeat (((with_reducible (exact HB.out))))⟩⟩
      · rw [if_neg c2] at H
        have c2b0 : decide (128 ≤ x0_1) = false := decide_eq_false c2
        have c2' : x0_1 < 128 := by omega
        clear c2
        obtain ⟨y112, hy112⟩ : ∃ y_ : List Int, y_ = (x3_1 ++ [x0_1]) := ⟨_, rfl⟩
        rw [← hy112] at H
        have Ny112 := Aside0.mk hy112
        clear hy112
        obtain rfl := Option.some.inj H
        clear H
        go_wp2_with (first | ((with_reducible refine gate_builtin (b := .append) (xs := #[.tmp 14, .tmp 17]) rfl ?_); at_builtin; refine Kd.R_append (Kd.int .u8) (w0 := w) w.heap.size rfl (.tmp 14) (.tmp 17) 61 5 (.int .u8 0) 1 rfl Tryz.underlying61 info5 rfl (by decide) (by omega) u3 x3_1 x0_1 [.int .u8 x0_1] (fun _ => True) (fun _ => False) rfl rfl ?aP (fun _ hk => hk.elim) ?aF ?aO ?aB ?aS ?aL ?_; (case aP => exact rfl); (case aB => exact (by repeat (((with_reducible (exact HB.out)))))); (case aF => exact (fun _ _ => trivial)); (case aO => exact (by (with_reducible repeat (fail)); exact HO_3.out)); (case aS => exact (below_size (by repeat (((with_reducible (exact HB.out))))))); (case aL => have := HLEN.out; omega); intro v113 w6 ho hb hg hat; rw [← Ny112.out] at ho; have n0_ := Aside0.mk (hb); have n1_ := Aside0.mk (ho); clear HB; clear HO_3; have HB := n0_; have HO114 := n1_; clear n0_ n1_; clear ho hb hg hat; have hcv7 := own_string (P := Tryz.prog) Tryz.underlying61 Tryz.underlying5 Tryz.underlying9 (Kd.own_of_R HO114.out)))
        go_ret
        exact ⟨rfl, by repeat (((with_reducible (exact HB.out))))⟩


/-! ### coppiceref02_Text: function 25, by hand -/
def coppiceref02_Text.f (a0 : ByteArray) : Option ByteArray := if a0.size ≤ 9223372036854775000 then some (strOfNums (shortNums 9 a0.size) ++ a0) else none
set_option maxHeartbeats 1000000 in
set_option maxRecDepth 100000 in
theorem coppiceref02_Text.calls (a0 : ByteArray) (r : ByteArray) (w : World) (h : coppiceref02_Text.f a0 = some r) :
    Calls Tryz.prog 25 #[.string a0] w fun e w' => e = .returned (.string r) ∧ Below w.heap.size w w' := by
  unfold coppiceref02_Text.f at h
  split at h
  case isFalse => cases h
  case isTrue hh =>
  obtain rfl := Option.some.inj h
  clear h
  have hs := Aside0.mk (shortNums_len 9 a0.size)
  have hf : coppiceref02_Short.f a0.size = some (strOfNums (shortNums 9 a0.size)) := by unfold coppiceref02_Short.f; rw [if_pos ⟨by omega, by omega⟩]
  have HF := Aside0.mk hf
  clear hf
  generalize hsn : strOfNums (shortNums 9 a0.size) = sn at *
  have hz : sn.size ≤ 10 := by rw [← hsn, strOfNums_size]; exact hs.out
  have HSN := Aside0.mk hsn
  clear hsn
  have c3b0 : (sn.size + a0.size ≤ 9223372036854775807) = True := eq_true (by omega)
  have c3b1 : decide (sn.size + a0.size ≤ 9223372036854775807) = true := decide_eq_true (by omega)
  have c3b2 : (9223372036854775807 < sn.size + a0.size) = False := eq_false (by omega)
  go_enter Tryz.func25, Tryz.ntmps25
  go_wp2_with (go_at_call 27; refine (coppiceref02_Short.calls _ _ _ HF.out).mono ?_; rintro e w' ⟨rfl, hb⟩)
  go_ret
  exact ⟨rfl, by assumption⟩


/-! ### coppiceref02_Fixed: function 26 -/
def coppiceref02_Fixed.l0 : Nat → Int → ByteArray → Int → Option (ByteArray)
 | 0, _, _, _ => none
 | k + 1, x0, x3, x4 => if x4 ≥ 0 then (if 0 ≤ x4 then ((some (([(shr .u64 x0 x4) % 256] : List Int) : List Int)).bind fun y212 => (if x3.size + (strOfNums y212).size ≤ 9223372036854775807 then (coppiceref02_Fixed.l0 k x0 (x3 ++ (strOfNums y212)) (wrap64 (x4 - 8))) else (none))) else (none)) else (some x3)
def coppiceref02_Fixed.f (k : Nat) (a0 : Int) : Option (ByteArray) := coppiceref02_Fixed.l0 k a0 (⟨#[]⟩ : ByteArray) 56
set_option maxHeartbeats 8000000 in
set_option maxRecDepth 100000 in
theorem coppiceref02_Fixed.calls (k : Nat) (a0 : Int) (r : ByteArray) (w : World) (h : coppiceref02_Fixed.f k a0 = some r) :
  Calls Tryz.prog 26 #[.int .u64 a0] w fun e w' => e = .returned (.string r) ∧ Below w.heap.size w w' := by
 have HB := Aside0.mk (Below.refl w.heap.size w)
 have H : (coppiceref02_Fixed.l0 k a0 (⟨#[]⟩ : ByteArray) 56) = some r := h
 clear h
 have H' := Aside0.mk H
 clear H
 go_enter Tryz.func26, Tryz.ntmps26
 go_wp2
 go_loopg [3, 4] k (fun kq v3 v4 w' => ∃ (x3_1 : ByteArray) (x4_1 : Int), v3 = .string x3_1 ∧ v4 = .int .i64 x4_1 ∧ Aside0 (coppiceref02_Fixed.l0 kq a0 x3_1 x4_1 = some r) ∧ Aside0 (kq ≤ k) ∧ Aside0 (Below w.heap.size w w'))
 case atStart => exact ⟨((⟨#[]⟩ : ByteArray)), (56), (by (rfl)), (by (rfl)), H', ⟨Nat.le_refl _⟩, ⟨by repeat (((with_reducible (exact HB.out))))⟩⟩
 case round =>
  clear H'
  obtain ⟨x3_1, x4_1, rfl, rfl, HA, HK1, HB⟩ := hrel
  cases gk with
  | zero => exact absurd HA.out (by simp [coppiceref02_Fixed.l0])
  | succ k1 =>
   have H := HA.out
   clear HA
   simp only [coppiceref02_Fixed.l0] at H
   by_cases c2 : x4_1 ≥ 0
   ·rw [if_pos c2] at H
    have c2b0 : decide (0 ≤ x4_1) = true := decide_eq_true c2
    clear c2
    by_cases c3 : 0 ≤ x4_1
    ·rw [if_pos c3] at H
     have c3b0 := eq_true c3
     have c3b1 : decide (0 ≤ x4_1) = true := decide_eq_true c3
     clear c3
     obtain ⟨ji4, hji4⟩ : ∃ j_ : Int, (shr .u64 a0 x4_1) = j_ := ⟨_, rfl⟩
     replace H : ((some (([(ji4) % 256] : List Int) : List Int)).bind fun y212 => (if x3_1.size + (strOfNums y212).size ≤ 9223372036854775807 then (coppiceref02_Fixed.l0 k1 a0 (x3_1 ++ (strOfNums y212)) (wrap64 (x4_1 - 8))) else (none))) = some r := by ((rw [hji4] at H; exact H))
     have hji4_ : (a0 / 2 ^ min x4_1.toNat 64) = ji4 := hji4
     have hji4z : x4_1 ≤ 64 → (a0 / 2 ^ x4_1.toNat) = ji4 := shr_small hji4
     obtain ⟨y212, hy212⟩ : ∃ y_ : List Int, y_ = (([(ji4) % 256] : List Int)) := ⟨_, rfl⟩
     replace H : (if x3_1.size + (strOfNums y212).size ≤ 9223372036854775807 then (coppiceref02_Fixed.l0 k1 a0 (x3_1 ++ (strOfNums y212)) (wrap64 (x4_1 - 8))) else (none)) = some r := by ((have H2_ := (Option.bind_some _ _).symm.trans H; rw [hy212]; with_reducible exact H2_))
     have Ny212 := Aside0.mk hy212
     clear hy212
     by_cases c5 : x3_1.size + (strOfNums y212).size ≤ 9223372036854775807
     ·rw [if_pos c5] at H
      have c5b0 := eq_true c5
      have c5b1 : decide (x3_1.size + (strOfNums y212).size ≤ 9223372036854775807) = true := decide_eq_true c5
      try have c5b2 : (9223372036854775807 < x3_1.size + (strOfNums y212).size) = False := eq_false (Nat.not_lt.2 c5)
      have H' := Aside0.mk H
      clear H
      go_wp2_with (first | ((with_reducible refine gate_dst (N := 14) rfl ?_); refine Kd.R_lit (Kd.int .u8) _ 5 ?hg (N := 14) ?hd (xs := ([(ji4) % 256] : List Int)) (inner := [.int .u8 ((ji4) % 256)]) (ok := fun _ => True) (okp := fun _ => True) ?hr ?hp (fun _ hk => hk) trivial (Below.refl _ _) (Nat.le_refl _) (by simp) ?_; (case hd => rfl); (case hg => rfl); (case hr => ((go_simp; done))); (case hp => exact (Reps.one (show Kd.M (Kd.int .u8) _ _ _ ((ji4) % 256) [.int .u8 ((ji4) % 256)] from rfl) (Reps.none _ _))); intro v213 w6 ho7 hb hg_ hnew_; clear hg_ hnew_; ((rw [← Ny212.out] at ho7)); have n0_ := Aside0.mk (Kd.R_lower ho7 (below_size (by repeat (((with_reducible (exact HB.out))))))); have n1_ := Aside0.mk (below_step (by repeat (((with_reducible (exact HB.out))))) hb); clear HB; have HO214 := n0_; have HB := n1_; clear n0_ n1_; clear hb ho7; have hcv8 := own_string (P := Tryz.prog) Tryz.underlying61 Tryz.underlying5 Tryz.underlying9 (Kd.own_of_R HO214.out)))
      go_roundg k1
      case measure => have := HK1.out; omega
      case rel => exact ⟨(x3_1 ++ (strOfNums y212)), (wrap64 (x4_1 - 8)), (by (rfl)), (by (rfl)), H', ⟨by have := HK1.out; omega⟩, ⟨by repeat (((with_reducible (exact HB.out))))⟩⟩
     ·rw [if_neg c5] at H
      exact absurd H (by simp)
    ·rw [if_neg c3] at H
     exact absurd H (by simp)
   ·rw [if_neg c2] at H
    have c2b0 : decide (0 ≤ x4_1) = false := decide_eq_false c2
    clear c2
    obtain rfl := Option.some.inj H
    go_wp2
    go_ret
    exact ⟨by (rfl), by repeat (((with_reducible (exact HB.out))))⟩

end Go.Proofs.YtofdpgcnconibaaGreatDoor.PA
