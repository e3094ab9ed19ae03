-- WRITTEN BY a program of this session (pp.sh)
import Derived.Test.YtdkbikaheagbfaaPTx0
import Derived.Test.YtdkbikaheagbfaaPTx14
import Derived.Test.YtdkbikaheagbfaaPTx15
namespace Go.Proofs.Ytdkbikaheagbfaa.PT
open Go.RowKit Go.Proofs.YtdkbikaheagbfaaW.PrintWords Go.Proofs.YtdkbikaheagbfaaW.PrintLast Go.Proofs.YtdkbikaheagbfaaW.PrintMore Go.Proofs.Ytdkbikaheagbfaa.Plain
attribute [local go_sem] max2_int min2_int max_two min_two max_three min_three max_four min_four binOp_leq_s binOp_gtr_s binOp_geq_s lit_byte   -- for this text's walks alone
set_option linter.unusedVariables false
set_option linter.unusedSimpArgs false

/-! ### coppiceref06_bytes: function 27 -/
mutual
def coppiceref06_bytes.j0 : Nat → ByteArray → Bool → List (S44) → List (S46) → Option (ByteArray)
 | 0, _, _, _, _ => none
 | k + 1, x3, x186000, x186001, x186002 => coppiceref06_bytes.l0 k x3 0 x186000 x186001 x186002
def coppiceref06_bytes.l0 : Nat → ByteArray → Int → Bool → List (S44) → List (S46) → Option (ByteArray)
 | 0, _, _, _, _, _ => none
 | k + 1, x3, x4, x186000, x186001, x186002 => if x4 < (x186001.length : Int) then (if 0 ≤ x4 then ((coppiceref06_item.f ((rd_T44 x186001 x4).f0) ((rd_T44 x186001 x4).f1)).bind fun t189 => (if x3.size + t189.size ≤ 9223372036854775807 then (coppiceref06_bytes.l0 k (x3 ++ t189) (wrap64 (x4 + 1)) x186000 x186001 x186002) else (none))) else (none)) else (coppiceref06_bytes.l1 k x3 0 x186000 x186001 x186002)
def coppiceref06_bytes.l1 : Nat → ByteArray → Int → Bool → List (S44) → List (S46) → Option (ByteArray)
 | 0, _, _, _, _, _ => none
 | k + 1, x3, x5, x186000, x186001, x186002 => if x5 < (x186002.length : Int) then (if 0 ≤ x5 then ((coppiceref06_kid.f ((rd_T46 x186002 x5).f0) ((rd_T46 x186002 x5).f1)).bind fun t191 => (if x3.size + t191.size ≤ 9223372036854775807 then (coppiceref06_bytes.l1 k (x3 ++ t191) (wrap64 (x5 + 1)) x186000 x186001 x186002) else (none))) else (none)) else (some x3)
end
def coppiceref06_bytes.f (k : Nat) (a0_0 : Bool) (l0_1 : List (S44)) (l0_2 : List (S46)) : Option (ByteArray) := (coppiceref02_Short.f (IntKind.u64.wrap ((l0_2.length : Int)))).bind fun t186 => (if 1 + t186.size ≤ 9223372036854775807 then (if a0_0 = true then ((coppiceref02_Short.f (IntKind.u64.wrap ((l0_1.length : Int)))).bind fun t187 => (if 1 + t187.size ≤ 9223372036854775807 then (coppiceref06_bytes.j0 k ((⟨#[1]⟩ : ByteArray) ++ t187) a0_0 l0_1 l0_2) else (none))) else (coppiceref06_bytes.j0 k ((⟨#[2]⟩ : ByteArray) ++ t186) a0_0 l0_1 l0_2)) else (none))
theorem coppiceref06_bytes.mono_l : ∀ k, (∀ y0 y1 y2 y3, LeO (coppiceref06_bytes.j0 k y0 y1 y2 y3) (coppiceref06_bytes.j0 (k + 1) y0 y1 y2 y3)) ∧ (∀ y0 y1 y2 y3 y4, LeO (coppiceref06_bytes.l0 k y0 y1 y2 y3 y4) (coppiceref06_bytes.l0 (k + 1) y0 y1 y2 y3 y4)) ∧ (∀ y0 y1 y2 y3 y4, LeO (coppiceref06_bytes.l1 k y0 y1 y2 y3 y4) (coppiceref06_bytes.l1 (k + 1) y0 y1 y2 y3 y4))
 | 0 => ⟨fun _ _ _ _ r h => by simp [coppiceref06_bytes.j0] at h, fun _ _ _ _ _ r h => by simp [coppiceref06_bytes.l0] at h, fun _ _ _ _ _ r h => by simp [coppiceref06_bytes.l1] at h⟩
 | k + 1 => by
  obtain ⟨ih0, ih1, ih2⟩ := coppiceref06_bytes.mono_l k
  refine ⟨?_, ?_, ?_⟩
  ·intro y0 y1 y2 y3
   unfold coppiceref06_bytes.j0
   repeat' first
   | (with_reducible exact ih1 _ _ _ _ _)
  ·intro y0 y1 y2 y3 y4
   unfold coppiceref06_bytes.l0
   repeat' first
   | (with_reducible exact ih1 _ _ _ _ _)
   | (with_reducible exact ih2 _ _ _ _ _)
   | (with_reducible exact LeO.refl _)
   | (with_reducible refine LeO.ite ?_ ?_)
   | (with_reducible refine LeO.bind ?_ (fun _ => ?_))
  ·intro y0 y1 y2 y3 y4
   unfold coppiceref06_bytes.l1
   repeat' first
   | (with_reducible exact ih2 _ _ _ _ _)
   | (with_reducible exact LeO.refl _)
   | (with_reducible refine LeO.ite ?_ ?_)
   | (with_reducible refine LeO.bind ?_ (fun _ => ?_))
theorem coppiceref06_bytes.mono : ∀ a0 a1 a2 k, LeO (coppiceref06_bytes.f k a0 a1 a2) (coppiceref06_bytes.f (k + 1) a0 a1 a2) := by
 intro a0 a1 a2 k
 obtain ⟨ih0, ih1, ih2⟩ := coppiceref06_bytes.mono_l k
 unfold coppiceref06_bytes.f
 repeat' first
   | (with_reducible exact ih0 _ _ _ _)
   | (with_reducible exact LeO.refl _)
   | (with_reducible refine LeO.ite ?_ ?_)
   | (with_reducible refine LeO.bind ?_ (fun _ => ?_))
set_option maxHeartbeats 8000000 in
set_option maxRecDepth 100000 in
theorem coppiceref06_bytes.calls (k : Nat) (a0_0 : Bool) (A0_1 : Option Addr) (c0_1 : Nat) (l0_1 : List (S44)) (A0_2 : Option Addr) (c0_2 : Nat) (l0_2 : List (S46)) (r : ByteArray) (w : World) (hr0_1 : Kd.C k44 w A0_1 l0_1.length l0_1) (hc0_1 : l0_1.length ≤ c0_1) (hr0_2 : Kd.C k46 w A0_2 l0_2.length l0_2) (hc0_2 : l0_2.length ≤ c0_2) (h : coppiceref06_bytes.f k a0_0 l0_1 l0_2 = some r) :
  Calls Try.prog 27 #[.agg #[.bool a0_0, .slice A0_1 l0_1.length c0_1, .slice A0_2 l0_2.length c0_2]] w fun e w' => e = .returned (.string r) ∧ Below w.heap.size w w' := by
 have hu25 := Try.underlying25
 have hu44 := Try.underlying44
 have hu46 := Try.underlying46
 have HR0_1 := Aside0.mk hr0_1
 have HC0_1 := Aside0.mk hc0_1
 clear hr0_1 hc0_1
 have HR0_2 := Aside0.mk hr0_2
 have HC0_2 := Aside0.mk hc0_2
 clear hr0_2 hc0_2
 have HB := Aside0.mk (Below.refl w.heap.size w)
 have H : ((coppiceref02_Short.f (IntKind.u64.wrap ((l0_2.length : Int)))).bind fun qe => (if 1 + qe.size ≤ 9223372036854775807 then (if a0_0 = true then ((coppiceref02_Short.f (IntKind.u64.wrap ((l0_1.length : Int)))).bind fun qd => (if 1 + qd.size ≤ 9223372036854775807 then (coppiceref06_bytes.j0 k ((⟨#[1]⟩ : ByteArray) ++ qd) a0_0 l0_1 l0_2) else (none))) else (coppiceref06_bytes.j0 k ((⟨#[2]⟩ : ByteArray) ++ qe) a0_0 l0_1 l0_2)) else (none))) = some r := h
 clear h
 replace H := Option.bind_eq_some_iff.mp H
 obtain ⟨qe, A20, H⟩ := H
 replace H : (if 1 + qe.size ≤ 9223372036854775807 then (if a0_0 = true then ((coppiceref02_Short.f (IntKind.u64.wrap ((l0_1.length : Int)))).bind fun qd => (if 1 + qd.size ≤ 9223372036854775807 then (coppiceref06_bytes.j0 k ((⟨#[1]⟩ : ByteArray) ++ qd) a0_0 l0_1 l0_2) else (none))) else (coppiceref06_bytes.j0 k ((⟨#[2]⟩ : ByteArray) ++ qe) a0_0 l0_1 l0_2)) else (none)) = some r := H
 have A2 := Aside0.mk A20
 clear A20
 by_cases c3 : 1 + qe.size ≤ 9223372036854775807
 ·rw [if_pos c3] at H
  have c3b0 := eq_true c3
  have c3b1 : decide (1 + qe.size ≤ 9223372036854775807) = true := decide_eq_true c3
  try have c3b2 : (9223372036854775807 < 1 + qe.size) = False := eq_false (Nat.not_lt.2 c3)
  have HC4 := Aside0.mk H
  clear H
  go_enter Try.func27, Try.ntmps27
  go_upto_if 13 with (first | ((with_reducible refine gate_dst (N := 1) rfl ?_); refine box_event ?hg (N := 1) ?hd (cs := #[.bool a0_0, .slice A0_1 l0_1.length c0_1, .slice A0_2 l0_2.length c0_2]) (t := 25) ?hr ?_; (case hd => rfl); (case hg => rfl); (case hr => ((go_simp; done))); intro qc hg w5 hbox hb; have n0_ := Aside0.mk (below_step (by repeat (((with_reducible (exact HB.out))))) hb); have n1_ := Aside0.mk (hbox); have n2_ := Aside0.mk ((by rw [hg]; exact (below_size (by repeat (((with_reducible (exact HB.out)))))) : w.heap.size ≤ qc)); have n3_ := Aside0.mk ((by rw [hg]; exact (below_size (by repeat (((with_reducible (exact HB.out)))))) : w.heap.size ≤ qc)); clear HB; have HB := n0_; have qb := n1_; have GW185 := n2_; have qh := n3_; clear n0_ n1_ n2_ n3_; clear hb hbox hg; have hcz6_0 : w5.cell? ⟨qc, 0, none⟩ = some (.bool a0_0) := (blk_cell qb.out 0).trans rfl; have hcz6_1 : w5.cell? ⟨qc, 1, none⟩ = some (.slice A0_1 l0_1.length c0_1) := (blk_cell qb.out 1).trans rfl; have hcz6_2 : w5.cell? ⟨qc, 2, none⟩ = some (.slice A0_2 l0_2.length c0_2) := (blk_cell qb.out 2).trans rfl; have hfz6_0 := blk_frozen qb.out 0; have hfz6_1 := blk_frozen qb.out 1; have hfz6_2 := blk_frozen qb.out 2) | ((with_reducible refine gate_callee (f := 55) rfl ?_); refine goesL_ (some 10) rfl rfl Try.func55 (by kernel_rfl) rfl #[.int .u64 (IntKind.u64.wrap ((l0_2.length : Int)))] rfl (by (try simp only [List.map_toArray, List.map_cons, List.map_nil]); (rfl)) ?_; (with_reducible refine (coppiceref02_Short.calls (IntKind.u64.wrap ((l0_2.length : Int))) qe _ A2.out).mono ?_); rintro e w7 ⟨rfl, hb⟩; refine ⟨_, rfl, ?_⟩; have n0_ := Aside0.mk (blk_below (g := qc) (o := .cells #[.bool a0_0, .slice A0_1 l0_1.length c0_1, .slice A0_2 l0_2.length c0_2] 25 (0, 0)) (by exact qb.out) hb); have n1_ := Aside0.mk (below_step (by repeat (((with_reducible (exact HB.out))))) hb); clear qb; clear HB; have qb := n0_; have HB := n1_; clear n0_ n1_; (try clear hb); (try clear hb2); (try clear hk); (try clear hi); have hcz8_0 : w7.cell? ⟨qc, 0, none⟩ = some (.bool a0_0) := (blk_cell qb.out 0).trans rfl; have hcz8_1 : w7.cell? ⟨qc, 1, none⟩ = some (.slice A0_1 l0_1.length c0_1) := (blk_cell qb.out 1).trans rfl; have hcz8_2 : w7.cell? ⟨qc, 2, none⟩ = some (.slice A0_2 l0_2.length c0_2) := (blk_cell qb.out 2).trans rfl; have hfz8_0 := blk_frozen qb.out 0; have hfz8_1 := blk_frozen qb.out 1; have hfz8_2 := blk_frozen qb.out 2))
  (try simp only [Act.put, List.setIfInBounds_toArray, List.set_cons_zero, List.set_cons_succ])
  go_cut [3] (fun v3 wc => ∃ (kq : Nat) (x3_3 : ByteArray), v3 = .string x3_3 ∧ Aside0 (coppiceref06_bytes.j0 kq x3_3 a0_0 l0_1 l0_2 = some r) ∧ Aside0 (kq ≤ k) ∧ Aside0 (wc.heap[qc]? = some (.cells #[.bool a0_0, (.slice A0_1 l0_1.length c0_1), (.slice A0_2 l0_2.length c0_2)] 25 (0, 0))) ∧ Aside0 (Below w.heap.size w wc))
  case first =>
   have H := HC4.out
   clear HC4
   by_cases c9 : a0_0 = true
   ·subst c9
    have H1 : ((coppiceref02_Short.f (IntKind.u64.wrap ((l0_1.length : Int)))).bind fun qd => (if 1 + qd.size ≤ 9223372036854775807 then (coppiceref06_bytes.j0 k ((⟨#[1]⟩ : ByteArray) ++ qd) true l0_1 l0_2) else (none))) = some r := by rw [if_pos rfl] at H; exact H
    clear H
    have H := H1
    clear H1
    replace H := Option.bind_eq_some_iff.mp H
    obtain ⟨qd, A100, H⟩ := H
    replace H : (if 1 + qd.size ≤ 9223372036854775807 then (coppiceref06_bytes.j0 k ((⟨#[1]⟩ : ByteArray) ++ qd) true l0_1 l0_2) else (none)) = some r := H
    have A10 := Aside0.mk A100
    clear A100
    by_cases c11 : 1 + qd.size ≤ 9223372036854775807
    ·rw [if_pos c11] at H
     have c11b0 := eq_true c11
     have c11b1 : decide (1 + qd.size ≤ 9223372036854775807) = true := decide_eq_true c11
     try have c11b2 : (9223372036854775807 < 1 + qd.size) = False := eq_false (Nat.not_lt.2 c11)
     have H' := Aside0.mk H
     clear H
     have hcz12_0 : w7.cell? ⟨qc, 0, none⟩ = some (.bool true) := (blk_cell qb.out 0).trans rfl
     have hcz12_1 : w7.cell? ⟨qc, 1, none⟩ = some (.slice A0_1 l0_1.length c0_1) := (blk_cell qb.out 1).trans rfl
     have hcz12_2 : w7.cell? ⟨qc, 2, none⟩ = some (.slice A0_2 l0_2.length c0_2) := (blk_cell qb.out 2).trans rfl
     have hfz12_0 := blk_frozen qb.out 0
     have hfz12_1 := blk_frozen qb.out 1
     have hfz12_2 := blk_frozen qb.out 2
     go_wp2_with (first | ((with_reducible refine gate_callee (f := 55) rfl ?_); refine goesL_ (some 18) rfl rfl Try.func55 (by kernel_rfl) rfl #[.int .u64 (IntKind.u64.wrap ((l0_1.length : Int)))] rfl (by (try simp only [List.map_toArray, List.map_cons, List.map_nil]); (rfl)) ?_; (with_reducible refine (coppiceref02_Short.calls (IntKind.u64.wrap ((l0_1.length : Int))) qd _ A10.out).mono ?_); rintro e w13 ⟨rfl, hb⟩; refine ⟨_, rfl, ?_⟩; have n0_ := Aside0.mk (blk_below (g := qc) (o := .cells #[.bool true, .slice A0_1 l0_1.length c0_1, .slice A0_2 l0_2.length c0_2] 25 (0, 0)) (by exact qb.out) hb); have n1_ := Aside0.mk (below_step (by repeat (((with_reducible (exact HB.out))))) hb); clear qb; clear HB; have qb := n0_; have HB := n1_; clear n0_ n1_; (try clear hb); (try clear hb2); (try clear hk); (try clear hi)))
     go_meet
     case rel => exact ⟨_, ((⟨#[1]⟩ : ByteArray) ++ qd), (by (rfl)), H', ⟨by (omega)⟩, ⟨by exact qb.out⟩, ⟨by repeat (((with_reducible (exact HB.out))))⟩⟩
    ·rw [if_neg c11] at H
     exact absurd H (by simp)
   ·replace c9 := Bool.eq_false_iff.mpr c9
    subst c9
    have H1 : (coppiceref06_bytes.j0 k ((⟨#[2]⟩ : ByteArray) ++ qe) false l0_1 l0_2) = some r := by rw [if_neg (show ¬ (false = true) by decide)] at H; exact H
    clear H
    have H := H1
    clear H1
    have H' := Aside0.mk H
    clear H
    go_wp2
    go_meet
    case rel => exact ⟨_, ((⟨#[2]⟩ : ByteArray) ++ qe), (by (rfl)), H', ⟨by (omega)⟩, ⟨by exact qb.out⟩, ⟨by repeat (((with_reducible (exact HB.out))))⟩⟩
  case rest =>
   clear HC4
   try clear c1
   try clear c2
   try clear p2
   try clear c3
   try clear c3b0
   try clear c3b1
   try clear c3b2
   try clear c5
   try clear c9
   try clear c11
   try clear c11b0
   try clear c11b1
   try clear c11b2
   try clear hcz12_0
   try clear hcz12_1
   try clear hcz12_2
   try clear hcz6_0
   try clear hcz6_1
   try clear hcz6_2
   try clear hcz8_0
   try clear hcz8_1
   try clear hcz8_2
   try clear hfz12_0
   try clear hfz12_1
   try clear hfz12_2
   try clear hfz6_0
   try clear hfz6_1
   try clear hfz6_2
   try clear hfz8_0
   try clear hfz8_1
   try clear hfz8_2
   obtain ⟨kq, x3_3, rfl, HA, HJ3, qb, HB⟩ := hcut
   cases kq with
   | zero => exact absurd HA.out (by simp [coppiceref06_bytes.j0])
   | succ kj3 =>
    have H := HA.out
    clear HA
    simp only [coppiceref06_bytes.j0] at H
    have H' := Aside0.mk H
    clear H
    go_wp2
    go_loopg [3, 4] kj3 (fun kq v3 v4 w' => ∃ (x3_2 : ByteArray) (x4_2 : Int), v3 = .string x3_2 ∧ v4 = .int .i64 x4_2 ∧ Aside0 (coppiceref06_bytes.l0 kq x3_2 x4_2 a0_0 l0_1 l0_2 = some r) ∧ Aside0 (kq ≤ kj3) ∧ Aside0 (w'.heap[qc]? = some (.cells #[.bool a0_0, (.slice A0_1 l0_1.length c0_1), (.slice A0_2 l0_2.length c0_2)] 25 (0, 0))) ∧ Aside0 (Below w.heap.size w w'))
    case atStart => exact ⟨(x3_3), (0), (by (rfl)), (by (rfl)), H', ⟨Nat.le_refl _⟩, ⟨by exact qb.out⟩, ⟨by repeat (((with_reducible (exact HB.out))))⟩⟩
    case round =>
     clear H'
     try clear c1
     try clear c2
     try clear p2
     try clear c3
     try clear c3b0
     try clear c3b1
     try clear c3b2
     try clear c5
     try clear c9
     try clear c11
     try clear c11b0
     try clear c11b1
     try clear c11b2
     try clear hcz12_0
     try clear hcz12_1
     try clear hcz12_2
     try clear hcz6_0
     try clear hcz6_1
     try clear hcz6_2
     try clear hcz8_0
     try clear hcz8_1
     try clear hcz8_2
     try clear hfz12_0
     try clear hfz12_1
     try clear hfz12_2
     try clear hfz6_0
     try clear hfz6_1
     try clear hfz6_2
     try clear hfz8_0
     try clear hfz8_1
     try clear hfz8_2
     try clear p2
     obtain ⟨x3_2, x4_2, rfl, rfl, HA, HK2, qb, HB⟩ := hrel
     cases gk with
     | zero => exact absurd HA.out (by simp [coppiceref06_bytes.l0])
     | succ k2 =>
      have H := HA.out
      clear HA
      simp only [coppiceref06_bytes.l0] at H
      by_cases c14 : x4_2 < (l0_1.length : Int)
      ·rw [if_pos c14] at H
       have c14b0 : decide (x4_2 < (l0_1.length : Int)) = true := decide_eq_true c14
       clear c14
       by_cases c15 : 0 ≤ x4_2
       ·rw [if_pos c15] at H
        have c15b0 : decide (0 ≤ x4_2) = true := decide_eq_true c15
        clear c15
        replace H := Option.bind_eq_some_iff.mp H
        obtain ⟨qg, A160, H⟩ := H
        replace H : (if x3_2.size + qg.size ≤ 9223372036854775807 then (coppiceref06_bytes.l0 k2 (x3_2 ++ qg) (wrap64 (x4_2 + 1)) a0_0 l0_1 l0_2) else (none)) = some r := H
        have A16 := Aside0.mk A160
        clear A160
        by_cases c17 : x3_2.size + qg.size ≤ 9223372036854775807
        ·rw [if_pos c17] at H
         have c17b0 := eq_true c17
         have c17b1 : decide (x3_2.size + qg.size ≤ 9223372036854775807) = true := decide_eq_true c17
         try have c17b2 : (9223372036854775807 < x3_2.size + qg.size) = False := eq_false (Nat.not_lt.2 c17)
         have H' := Aside0.mk H
         clear H
         have hcz18_0 : wr.cell? ⟨qc, 0, none⟩ = some (.bool a0_0) := (blk_cell qb.out 0).trans rfl
         have hcz18_1 : wr.cell? ⟨qc, 1, none⟩ = some (.slice A0_1 l0_1.length c0_1) := (blk_cell qb.out 1).trans rfl
         have hcz18_2 : wr.cell? ⟨qc, 2, none⟩ = some (.slice A0_2 l0_2.length c0_2) := (blk_cell qb.out 2).trans rfl
         have hfz18_0 := blk_frozen qb.out 0
         have hfz18_1 := blk_frozen qb.out 1
         have hfz18_2 := blk_frozen qb.out 2
         have p188 : 0 ≤ (x4_2 : Int) := of_decide_eq_true (by ((with_reducible assumption)))
         have q188 : x4_2 < (l0_1.length : Int) := of_decide_eq_true (by ((with_reducible assumption)))
         obtain ⟨ad188, e188, hx188_0, hx188_1⟩ := at_T44 HR0_1.out x4_2 p188 q188
         cases e188
         replace hx188_0 := (HB.out.cell (World.block_lt_of_cell? w _ hx188_0)).trans hx188_0
         replace hx188_1 := (HB.out.cell (World.block_lt_of_cell? w _ hx188_1)).trans hx188_1
         replace p188 := eq_true p188
         replace q188 := eq_true q188
         go_wp2_with (first | ((with_reducible refine gate_callee (f := 56) rfl ?_); refine goesL_ (some 33) rfl rfl Try.func56 (by kernel_rfl) rfl #[.agg #[.string ((rd_T44 l0_1 x4_2).f0), .string ((rd_T44 l0_1 x4_2).f1)]] rfl (by (try simp only [List.map_toArray, List.map_cons, List.map_nil]); (rfl)) ?_; (with_reducible refine (coppiceref06_item.calls ((rd_T44 l0_1 x4_2).f0) ((rd_T44 l0_1 x4_2).f1) qg _ A16.out).mono ?_); rintro e w19 ⟨rfl, hb⟩; refine ⟨_, rfl, ?_⟩; have n0_ := Aside0.mk (blk_below (g := qc) (o := .cells #[.bool a0_0, .slice (some ad188) l0_1.length c0_1, .slice A0_2 l0_2.length c0_2] 25 (0, 0)) (by exact qb.out) hb); have n1_ := Aside0.mk (below_step (by repeat (((with_reducible (exact HB.out))))) hb); clear qb; clear HB; have qb := n0_; have HB := n1_; clear n0_ n1_; (try clear hb); (try clear hb2); (try clear hk); (try clear hi)))
         go_roundg k2
         case measure => have := HJ3.out; have := HK2.out; omega
         case rel => exact ⟨(x3_2 ++ qg), (wrap64 (x4_2 + 1)), (by (rfl)), (by (rfl)), H', ⟨by have := HJ3.out; have := HK2.out; omega⟩, ⟨by exact qb.out⟩, ⟨by repeat (((with_reducible (exact HB.out))))⟩⟩
        ·rw [if_neg c17] at H
         exact absurd H (by simp)
       ·rw [if_neg c15] at H
        exact absurd H (by simp)
      ·rw [if_neg c14] at H
       have c14b0 : decide (x4_2 < (l0_1.length : Int)) = false := decide_eq_false c14
       clear c14
       have H' := Aside0.mk H
       clear H
       have hcz20_0 : wr.cell? ⟨qc, 0, none⟩ = some (.bool a0_0) := (blk_cell qb.out 0).trans rfl
       have hcz20_1 : wr.cell? ⟨qc, 1, none⟩ = some (.slice A0_1 l0_1.length c0_1) := (blk_cell qb.out 1).trans rfl
       have hcz20_2 : wr.cell? ⟨qc, 2, none⟩ = some (.slice A0_2 l0_2.length c0_2) := (blk_cell qb.out 2).trans rfl
       have hfz20_0 := blk_frozen qb.out 0
       have hfz20_1 := blk_frozen qb.out 1
       have hfz20_2 := blk_frozen qb.out 2
       go_wp2
       go_loopg [3, 5] k2 (fun kq v3 v5 w' => ∃ (x3_3 : ByteArray) (x5_3 : Int), v3 = .string x3_3 ∧ v5 = .int .i64 x5_3 ∧ Aside0 (coppiceref06_bytes.l1 kq x3_3 x5_3 a0_0 l0_1 l0_2 = some r) ∧ Aside0 (kq ≤ k2) ∧ Aside0 (w'.heap[qc]? = some (.cells #[.bool a0_0, (.slice A0_1 l0_1.length c0_1), (.slice A0_2 l0_2.length c0_2)] 25 (0, 0))) ∧ Aside0 (Below w.heap.size w w'))
       case atStart => exact ⟨(x3_2), (0), (by (rfl)), (by (rfl)), H', ⟨Nat.le_refl _⟩, ⟨by exact qb.out⟩, ⟨by repeat (((with_reducible (exact HB.out))))⟩⟩
       case round =>
        clear H'
        try clear c1
        try clear p1
        try clear q1
        try clear hx1
        try clear c2
        try clear p2
        try clear c3
        try clear c3b0
        try clear c3b1
        try clear c3b2
        try clear c5
        try clear p6
        try clear c9
        try clear c11
        try clear c11b0
        try clear c11b1
        try clear c11b2
        try clear c14
        try clear c14b0
        try clear c15
        try clear c15b0
        try clear c17
        try clear c17b0
        try clear c17b1
        try clear c17b2
        try clear p18
        try clear q18
        try clear hx18
        try clear hcz12_0
        try clear hcz12_1
        try clear hcz12_2
        try clear hcz18_0
        try clear hcz18_1
        try clear hcz18_2
        try clear hcz20_0
        try clear hcz20_1
        try clear hcz20_2
        try clear hcz6_0
        try clear hcz6_1
        try clear hcz6_2
        try clear hcz8_0
        try clear hcz8_1
        try clear hcz8_2
        try clear hfz12_0
        try clear hfz12_1
        try clear hfz12_2
        try clear hfz18_0
        try clear hfz18_1
        try clear hfz18_2
        try clear hfz20_0
        try clear hfz20_1
        try clear hfz20_2
        try clear hfz6_0
        try clear hfz6_1
        try clear hfz6_2
        try clear hfz8_0
        try clear hfz8_1
        try clear hfz8_2
        try clear hx188_0
        try clear hx188_1
        try clear p188
        try clear p2
        try clear q188
        obtain ⟨x3_3, x5_3, rfl, rfl, HA, HK3, qb, HB⟩ := hrel
        cases gk with
        | zero => exact absurd HA.out (by simp [coppiceref06_bytes.l1])
        | succ k3 =>
         have H := HA.out
         clear HA
         simp only [coppiceref06_bytes.l1] at H
         by_cases c21 : x5_3 < (l0_2.length : Int)
         ·rw [if_pos c21] at H
          have c21b0 : decide (x5_3 < (l0_2.length : Int)) = true := decide_eq_true c21
          clear c21
          by_cases c22 : 0 ≤ x5_3
          ·rw [if_pos c22] at H
           have c22b0 : decide (0 ≤ x5_3) = true := decide_eq_true c22
           clear c22
           replace H := Option.bind_eq_some_iff.mp H
           obtain ⟨qf, A230, H⟩ := H
           replace H : (if x3_3.size + qf.size ≤ 9223372036854775807 then (coppiceref06_bytes.l1 k3 (x3_3 ++ qf) (wrap64 (x5_3 + 1)) a0_0 l0_1 l0_2) else (none)) = some r := H
           have A23 := Aside0.mk A230
           clear A230
           by_cases c24 : x3_3.size + qf.size ≤ 9223372036854775807
           ·rw [if_pos c24] at H
            have c24b0 := eq_true c24
            have c24b1 : decide (x3_3.size + qf.size ≤ 9223372036854775807) = true := decide_eq_true c24
            try have c24b2 : (9223372036854775807 < x3_3.size + qf.size) = False := eq_false (Nat.not_lt.2 c24)
            have H' := Aside0.mk H
            clear H
            have hcz25_0 : wr.cell? ⟨qc, 0, none⟩ = some (.bool a0_0) := (blk_cell qb.out 0).trans rfl
            have hcz25_1 : wr.cell? ⟨qc, 1, none⟩ = some (.slice A0_1 l0_1.length c0_1) := (blk_cell qb.out 1).trans rfl
            have hcz25_2 : wr.cell? ⟨qc, 2, none⟩ = some (.slice A0_2 l0_2.length c0_2) := (blk_cell qb.out 2).trans rfl
            have hfz25_0 := blk_frozen qb.out 0
            have hfz25_1 := blk_frozen qb.out 1
            have hfz25_2 := blk_frozen qb.out 2
            have p190 : 0 ≤ (x5_3 : Int) := of_decide_eq_true (by ((with_reducible assumption)))
            have q190 : x5_3 < (l0_2.length : Int) := of_decide_eq_true (by ((with_reducible assumption)))
            obtain ⟨ad190, e190, hx190_0, hx190_1⟩ := at_T46 HR0_2.out x5_3 p190 q190
            cases e190
            replace hx190_0 := (HB.out.cell (World.block_lt_of_cell? w _ hx190_0)).trans hx190_0
            replace hx190_1 := (HB.out.cell (World.block_lt_of_cell? w _ hx190_1)).trans hx190_1
            replace p190 := eq_true p190
            replace q190 := eq_true q190
            go_wp2_with (first | ((with_reducible refine gate_callee (f := 57) rfl ?_); refine goesL_ (some 48) rfl rfl Try.func57 (by kernel_rfl) rfl #[.agg #[.string ((rd_T46 l0_2 x5_3).f0), .int .i64 ((rd_T46 l0_2 x5_3).f1)]] rfl (by (try simp only [List.map_toArray, List.map_cons, List.map_nil]); (rfl)) ?_; (with_reducible refine (coppiceref06_kid.calls ((rd_T46 l0_2 x5_3).f0) ((rd_T46 l0_2 x5_3).f1) qf _ A23.out).mono ?_); rintro e w26 ⟨rfl, hb⟩; refine ⟨_, rfl, ?_⟩; have n0_ := Aside0.mk (blk_below (g := qc) (o := .cells #[.bool a0_0, .slice A0_1 l0_1.length c0_1, .slice (some ad190) l0_2.length c0_2] 25 (0, 0)) (by exact qb.out) hb); have n1_ := Aside0.mk (below_step (by repeat (((with_reducible (exact HB.out))))) hb); clear qb; clear HB; have qb := n0_; have HB := n1_; clear n0_ n1_; (try clear hb); (try clear hb2); (try clear hk); (try clear hi)))
            go_roundg k3
            case measure => have := HJ3.out; have := HK2.out; have := HK3.out; omega
            case rel => exact ⟨(x3_3 ++ qf), (wrap64 (x5_3 + 1)), (by (rfl)), (by (rfl)), H', ⟨by have := HJ3.out; have := HK2.out; have := HK3.out; omega⟩, ⟨by exact qb.out⟩, ⟨by repeat (((with_reducible (exact HB.out))))⟩⟩
           ·rw [if_neg c24] at H
            exact absurd H (by simp)
          ·rw [if_neg c22] at H
           exact absurd H (by simp)
         ·rw [if_neg c21] at H
          have c21b0 : decide (x5_3 < (l0_2.length : Int)) = false := decide_eq_false c21
          clear c21
          obtain rfl := Option.some.inj H
          have hcz27_0 : wr.cell? ⟨qc, 0, none⟩ = some (.bool a0_0) := (blk_cell qb.out 0).trans rfl
          have hcz27_1 : wr.cell? ⟨qc, 1, none⟩ = some (.slice A0_1 l0_1.length c0_1) := (blk_cell qb.out 1).trans rfl
          have hcz27_2 : wr.cell? ⟨qc, 2, none⟩ = some (.slice A0_2 l0_2.length c0_2) := (blk_cell qb.out 2).trans rfl
          have hfz27_0 := blk_frozen qb.out 0
          have hfz27_1 := blk_frozen qb.out 1
          have hfz27_2 := blk_frozen qb.out 2
          go_wp2
          go_ret
          exact ⟨by (rfl), by repeat (((with_reducible (exact HB.out))))⟩
 ·rw [if_neg c3] at H
  exact absurd H (by simp)

end Go.Proofs.Ytdkbikaheagbfaa.PT
