-- WRITTEN BY a program of this session (pp.sh)
import Derived.Test.YtdkbikaheagbfaaPTx0
import Derived.Test.YtdkbikaheagbfaaPTx5
import Derived.Test.YtdkbikaheagbfaaPTx6
import Derived.Test.YtdkbikaheagbfaaPTx7
import Derived.Test.YtdkbikaheagbfaaPTx8
namespace Go.Proofs.Ytdkbikaheagbfaa.PT
open Go.RowKit Go.Proofs.YtdkbikaheagbfaaW.PrintWords Go.Proofs.YtdkbikaheagbfaaW.PrintLast Go.Proofs.YtdkbikaheagbfaaW.PrintMore Go.Proofs.Ytdkbikaheagbfaa.Plain
attribute [local go_sem] max2_int min2_int max_two min_two max_three min_three max_four min_four binOp_leq_s binOp_gtr_s binOp_geq_s lit_byte   -- for this text's walks alone
set_option linter.unusedVariables false
set_option linter.unusedSimpArgs false

/-! ### node_right: function 29, by hand -/
def itemFits (x : S44) : Bool := !x.f0.toList.isEmpty && (decide ((x.f0.size : Int) ≤ 272) && decide ((x.f1.size : Int) ≤ 160))
def kidFits (x : S46) : Bool := decide ((x.f0.size : Int) ≤ 272) && (decide (2 ≤ x.f1) && decide (x.f1 < 4096))
/-- May it be? -/
def rightB (a : Bool) (l : List S44) (m : List S46) : Bool :=
  if a = true then ((m.length : Int) == 0) && (decide (0 < (l.length : Int)) && (risesB (l.map (·.f0)) && !(l.any fun x => !(itemFits x))))
  else ((l.length : Int) == 0) && (decide (0 < (m.length : Int)) && (risesB (m.map (·.f0)) && !(m.any fun x => !(kidFits x))))
def node_right.f (a : Bool) (l : List S44) (m : List S46) : Option Bool :=
  if (l.length : Int) ≤ 9223372036854775000 ∧ (m.length : Int) ≤ 9223372036854775000 then some (rightB a l m) else none
set_option maxHeartbeats 4000000 in
theorem node_right.fits_item (x : S44) (w : World) : Calls Try.prog 58 #[.agg #[.string x.f0, .string x.f1]] w fun e w' => e = .returned (.bool (itemFits x)) ∧ Below w.heap.size w w' := by
  obtain ⟨a, b⟩ := x
  unfold itemFits
  go_enter Try.func58, Try.ntmps58
  go_wp2
  all_goals
    go_ret
    exact ⟨by simp_all <;> omega, below_alloc (Below.refl _ _) _⟩
set_option maxHeartbeats 4000000 in
theorem node_right.nofits_item (B : Nat) (x : S44) (w : World) (hB : w.cell? ⟨B, 0, none⟩ = some (.func (.func 58) #[] #[])) : Calls Try.prog 61 #[.agg #[.string x.f0, .string x.f1], .pointer (some ⟨B, 0, none⟩)] w fun e w' => e = .returned (.bool !(itemFits x)) ∧ Below w.heap.size w w' := by
  have hlt : B < w.heap.size := World.block_lt_of_cell? w _ hB
  have hne : B ≠ w.heap.size := by omega
  generalize hq : itemFits x = q
  have HQ := Aside0.mk hq
  clear hq
  go_enter Try.func61, Try.ntmps61
  go_wp2_with (go_at_call 58; refine (node_right.fits_item x _).mono ?_; rintro e w' ⟨rfl, hb⟩)
  rw [HQ.out]
  go_wp2
  all_goals
    go_ret
    exact ⟨by simp_all, below_step (below_alloc (Below.refl _ _) _) hb⟩
theorem node_right.drop_item (l : List S44) (j : Nat) (hj : j < l.length) : l.drop j = rd_T44 l (j : Int) :: l.drop (j + 1) := by
  rw [List.drop_eq_getElem_cons hj]
  unfold rd_T44
  rw [Int.toNat_natCast, List.getD_eq_getElem?_getD, List.getElem?_eq_getElem hj]; rfl
set_option maxHeartbeats 8000000 in
set_option maxRecDepth 100000 in
theorem node_right.index_item (p : S44 → Bool) (g : Nat) (lb : Array Value) (eg : ∀ args w, (callFunc g args).run Try.prog w = .ok (.enter g args) w) (A0 : Option Addr) (c0 : Nat) (l0 : List S44) (w : World) (hr0 : Kd.C k44 w A0 l0.length l0) (hl : l0.length ≤ 9223372036854775000)
    (hp : ∀ W x, Below w.heap.size w W → Calls Try.prog g (#[.agg #[.string x.f0, .string x.f1]] ++ lb) W fun e w' => e = .returned (.bool (p x)) ∧ Below W.heap.size W w') :
    Calls Try.prog 77 #[.slice A0 l0.length c0, .func (.func g) #[] lb] w fun e w' => e = .returned (.int .i64 (idxB p l0 0)) ∧ Below w.heap.size w w' := by
  have hu := Try.underlying44
  have HR0 := Aside0.mk hr0
  have HL := Aside0.mk hl
  have HB := Aside0.mk (Below.refl w.heap.size w)
  have HP := Aside0.mk hp
  clear hr0 hl hp
  obtain ⟨R, hR⟩ : ∃ R : Int, idxB p l0 0 = R := ⟨_, rfl⟩
  rw [hR]
  have HQ := Aside0.mk hR
  clear hR
  go_enter Try.func77, Try.ntmps77
  go_wp2
  go_loopg [8] (l0.length + 1) (fun kq v8 w' => ∃ j : Nat, v8 = .int .i64 (j : Int) ∧ Aside0 (j ≤ l0.length ∧ l0.length < j + kq) ∧ Aside0 (idxB p (l0.drop j) j = R) ∧ Aside0 (Below w.heap.size w w'))
  case atStart => exact ⟨0, rfl, ⟨⟨Nat.zero_le _, by omega⟩⟩, ⟨by rw [List.drop_zero]; exact HQ.out⟩, HB⟩
  case round =>
    clear HB
    obtain ⟨j, rfl, HJ, HI, HB⟩ := hrel
    cases gk with
    | zero => exact absurd HJ.out (by omega)
    | succ k1 =>
      by_cases hj : j < l0.length
      · obtain ⟨ad, e, hx0, hx1⟩ := at_T44 HR0.out (j : Int) (by omega) (by omega)
        cases e
        rw [Int.toNat_natCast] at hx0 hx1
        replace hx0 := (HB.out.cell (World.block_lt_of_cell? w _ hx0)).trans hx0
        replace hx1 := (HB.out.cell (World.block_lt_of_cell? w _ hx1)).trans hx1
        have HI2 := Aside0.mk (show (if p (rd_T44 l0 (j : Int)) = true then (j : Int) else idxB p (l0.drop (j + 1)) (j + 1)) = R by have := HI.out; rw [node_right.drop_item l0 j hj] at this; exact this)
        clear HI
        generalize rd_T44 l0 (j : Int) = x at *
        obtain ⟨q, hq⟩ : ∃ q, p x = q := ⟨_, rfl⟩
        have hcall := HP.out _ x HB.out
        rw [hq] at hcall HI2
        have HC := Aside0.mk hcall
        clear hcall hq
        have d0 : decide ((j : Int) < (l0.length : Int)) = true := decide_eq_true (by omega)
        have d1 : decide (0 ≤ (j : Int)) = true := decide_eq_true (by omega)
        have d2 : IntKind.i64.wrap ((j : Int) + 1) = ((j + 1 : Nat) : Int) := by have := HL.out; rw [i64_w]; unfold wrap64; omega
        cases q with
        | true =>
          go_wp2_with (go_at_fn g; refine HC.out.mono ?_; rintro e w' ⟨rfl, hb⟩)
          go_ret
          have h2 : (j : Int) = R := HI2.out
          exact ⟨ret_i h2, below_step HB.out hb⟩
        | false =>
          go_wp2_with (go_at_fn g; refine HC.out.mono ?_; rintro e w' ⟨rfl, hb⟩)
          go_roundg k1
          case measure => omega
          case rel => exact ⟨j + 1, by (rfl), ⟨by have := HJ.out; omega⟩, ⟨by have h2 := HI2.out; simpa using h2⟩, ⟨below_step HB.out hb⟩⟩
      · have d0 : decide ((j : Int) < (l0.length : Int)) = false := decide_eq_false (by omega)
        go_wp2
        go_ret
        have h2 := HI.out
        rw [List.drop_of_length_le (by omega)] at h2
        have h3 : (-1 : Int) = R := h2
        exact ⟨ret_i h3, HB.out⟩
set_option maxHeartbeats 8000000 in
theorem node_right.contains_item (p : S44 → Bool) (g : Nat) (lb : Array Value) (eg : ∀ args w, (callFunc g args).run Try.prog w = .ok (.enter g args) w) (A0 : Option Addr) (c0 : Nat) (l0 : List S44) (w : World) (hr0 : Kd.C k44 w A0 l0.length l0) (hl : l0.length ≤ 9223372036854775000)
    (hp : ∀ W x, Below w.heap.size w W → Calls Try.prog g (#[.agg #[.string x.f0, .string x.f1]] ++ lb) W fun e w' => e = .returned (.bool (p x)) ∧ Below W.heap.size W w') :
    Calls Try.prog 60 #[.slice A0 l0.length c0, .func (.func g) #[] lb] w fun e w' => e = .returned (.bool (l0.any p)) ∧ Below w.heap.size w w' := by
  have hq := idxB_any p l0 0 (by omega)
  have HQ := Aside0.mk hq
  have hc := node_right.index_item p g lb eg A0 c0 l0 w hr0 hl hp
  have HC := Aside0.mk hc
  clear hq hc hp hl hr0
  generalize idxB p l0 0 = R at *
  generalize l0.any p = q at *
  go_enter Try.func60, Try.ntmps60
  go_wp2_with (go_at_call 77; refine HC.out.mono ?_; rintro e w' ⟨rfl, hb⟩)
  all_goals
    go_ret
    exact ⟨ret_b (by rw [← HQ.out]), hb⟩
theorem node_right.rises_item_loop (l : List S44) (hl : (l.length : Int) ≤ 9223372036854775000) (n : Nat) : ∀ (k j : Nat), n = l.length - j → n < k → j ≤ l.length →
    node_rises_Item_node_itemKey.l0 k l (l.length : Int) (j : Int) = some (risesB ((l.drop (j - 1)).map (·.f0))) := by
  induction n with
  | zero =>
    intro k j hn hk hj
    obtain ⟨k, rfl⟩ : ∃ m, k = m + 1 := ⟨k - 1, by omega⟩
    have : j = l.length := by omega
    subst this
    simp only [node_rises_Item_node_itemKey.l0]
    rw [if_neg (by omega)]
    congr 1
    have h1 : (l.drop (l.length - 1)).length ≤ 1 := by rw [List.length_drop]; omega
    generalize l.drop (l.length - 1) = q at h1
    match q, h1 with
    | [], _ => rfl
    | [_], _ => rfl
  | succ n ih =>
    intro k j hn hk hj
    obtain ⟨k, rfl⟩ : ∃ m, k = m + 1 := ⟨k - 1, by omega⟩
    simp only [node_rises_Item_node_itemKey.l0]
    have hnext : wrap64 ((j : Int) + 1) = ((j + 1 : Nat) : Int) := by rw [wrap_in (by omega) (by omega)]; omega
    have hi := ih k (j + 1) (by omega) (by omega) (by omega)
    rw [if_pos (by omega)]
    by_cases h0 : j = 0
    · subst h0
      rw [if_neg (by omega), hnext, hi]
    · rw [if_pos (by omega), wrap_in (by omega) (by omega), if_pos (by omega), if_pos (by omega)]
      have hp : (j : Int) - 1 = ((j - 1 : Nat) : Int) := by omega
      rw [hp]
      unfold node_itemKey.f
      rw [Option.bind_some, if_pos (by omega), if_pos (by omega), Option.bind_some, hnext, hi]
      rw [node_right.drop_item l (j - 1) (by omega), show j - 1 + 1 = j by omega, node_right.drop_item l j (by omega), show j + 1 - 1 = j by omega, node_right.drop_item l j (by omega)]
      simp only [List.map_cons, risesB]
      by_cases hb : Op.bytesLess (rd_T44 l ((j - 1 : Nat) : Int)).f0.toList (rd_T44 l (j : Int)).f0.toList = true
      · rw [if_pos hb, hb, Bool.true_and]
      · rw [if_neg hb]
        have : Op.bytesLess (rd_T44 l ((j - 1 : Nat) : Int)).f0.toList (rd_T44 l (j : Int)).f0.toList = false := by simpa using hb
        rw [this, Bool.false_and]
theorem node_right.rises_item (l : List S44) (hl : (l.length : Int) ≤ 9223372036854775000) : node_rises_Item_node_itemKey.f (l.length + 1) l = some (risesB (l.map (·.f0))) := by
  unfold node_rises_Item_node_itemKey.f
  have := node_right.rises_item_loop l hl l.length (l.length + 1) 0 (by omega) (by omega) (by omega)
  exact this
set_option maxHeartbeats 8000000 in
set_option maxRecDepth 100000 in
theorem node_right.calls_item (A1 : Option Addr) (c1 : Nat) (l : List S44) (A2 : Option Addr) (c2 : Nat) (m : List S46) (w : World) (hr1 : Kd.C k44 w A1 l.length l) (hr2 : Kd.C k46 w A2 m.length m) (hc1 : l.length ≤ c1) (hc2 : m.length ≤ c2) (hl : (l.length : Int) ≤ 9223372036854775000) :
    Calls Try.prog 29 #[.agg #[.bool true, .slice A1 l.length c1, .slice A2 m.length c2]] w fun e w' => e = .returned (.bool (rightB true l m)) ∧ Below w.heap.size w w' := by
  have HF := Aside0.mk (node_right.rises_item l hl)
  have HR := Aside0.mk hr1
  have HC1 := Aside0.mk hc1
  have HL := Aside0.mk hl
  have HB := Aside0.mk (Below.refl w.heap.size w)
  unfold rightB
  rw [if_pos rfl]
  have HK := fun (W : World) (hb : Below w.heap.size w W) => node_right.contains_item (fun x => !(itemFits x)) 61 #[.pointer (some ⟨w.heap.size + 1, 0, none⟩)] (enters_of Try.func61 (by kernel_rfl) rfl) A1 c1 l W
  have HK2 := Aside0.mk HK
  generalize risesB (l.map (·.f0)) = b at *
  generalize (l.any fun x => !(itemFits x)) = q at *
  clear HK hr1 hr2 hl hc1 hc2
  by_cases d1 : ((m.length : Int) == 0) = true
  · have d1' : (m.length == 0) = true := by simpa using d1
    by_cases d2 : decide (0 < (l.length : Int)) = true
    · have d2' : decide (0 < l.length) = true := by simpa using d2
      cases b with
      | true =>
        go_enter Try.func29, Try.ntmps29
        go_wp2_with (first
          | (go_at_call 59; refine (node_rises_Item_node_itemKey.calls (l.length + 1) A1 c1 l true _ (Kd.C_below HR.out (by repeat (first | exact Below.refl _ _ | apply below_alloc ))) HC1.out HF.out).mono ?_; rintro e w1 ⟨rfl, hb1⟩; obtain ⟨hc, hf⟩ := bcell hb1
             have HB1 := Aside0.mk (below_step (w := w) (by repeat (first | exact Below.refl _ _ | apply below_alloc )) hb1)
             have HC58 := Aside0.mk ((hc (w.heap.size + 1) 0 (by simp)).trans (show _ = some (.func (.func 58) #[] #[]) by simp))
             clear HB)
          | (go_at_call 60; refine (HK2.out _ HB1.out (Kd.C_below HR.out HB1.out) (by have := HL.out; omega) (fun W x hbW => node_right.nofits_item (w.heap.size + 1) x W ((hbW.cell (World.block_lt_of_cell? _ _ HC58.out)).trans HC58.out))).mono ?_; rintro e w2 ⟨rfl, hb2⟩))
        all_goals
          go_ret
          exact ⟨ret_b (by simp_all), below_step HB1.out hb2⟩
      | false =>
        go_enter Try.func29, Try.ntmps29
        go_wp2_with (go_at_call 59; refine (node_rises_Item_node_itemKey.calls (l.length + 1) A1 c1 l false _ (Kd.C_below HR.out (by repeat (first | exact Below.refl _ _ | apply below_alloc ))) HC1.out HF.out).mono ?_; rintro e w1 ⟨rfl, hb1⟩; obtain ⟨hc, hf⟩ := bcell hb1
                     have HB1 := Aside0.mk (below_step (w := w) (by repeat (first | exact Below.refl _ _ | apply below_alloc )) hb1)
                     clear HB)
        all_goals
          go_ret
          exact ⟨ret_b (by simp_all), HB1.out⟩
    · have d2' : decide (0 < l.length) = false := by simpa using d2
      have d2'' : decide (0 < (l.length : Int)) = false := by simpa using d2
      clear d2
      go_enter Try.func29, Try.ntmps29
      go_wp2
      all_goals
        go_ret
        exact ⟨ret_b (by simp_all), by repeat (first | exact Below.refl _ _ | apply below_alloc )⟩
  · have d1' : (m.length == 0) = false := by simpa using d1
    have d1'' : ((m.length : Int) == 0) = false := by simpa using d1
    clear d1
    go_enter Try.func29, Try.ntmps29
    go_wp2
    all_goals
      go_ret
      exact ⟨ret_b (by simp_all), by repeat (first | exact Below.refl _ _ | apply below_alloc )⟩
set_option maxHeartbeats 4000000 in
theorem node_right.fits_kid (x : S46) (w : World) : Calls Try.prog 62 #[.agg #[.string x.f0, .int .i64 x.f1]] w fun e w' => e = .returned (.bool (kidFits x)) ∧ Below w.heap.size w w' := by
  obtain ⟨a, b⟩ := x
  unfold kidFits
  go_enter Try.func62, Try.ntmps62
  go_wp2
  all_goals
    go_ret
    exact ⟨by simp_all <;> omega, below_alloc (Below.refl _ _) _⟩
set_option maxHeartbeats 4000000 in
theorem node_right.nofits_kid (B : Nat) (x : S46) (w : World) (hB : w.cell? ⟨B, 0, none⟩ = some (.func (.func 62) #[] #[])) : Calls Try.prog 65 #[.agg #[.string x.f0, .int .i64 x.f1], .pointer (some ⟨B, 0, none⟩)] w fun e w' => e = .returned (.bool !(kidFits x)) ∧ Below w.heap.size w w' := by
  have hlt : B < w.heap.size := World.block_lt_of_cell? w _ hB
  have hne : B ≠ w.heap.size := by omega
  generalize hq : kidFits x = q
  have HQ := Aside0.mk hq
  clear hq
  go_enter Try.func65, Try.ntmps65
  go_wp2_with (go_at_call 62; refine (node_right.fits_kid x _).mono ?_; rintro e w' ⟨rfl, hb⟩)
  rw [HQ.out]
  go_wp2
  all_goals
    go_ret
    exact ⟨by simp_all, below_step (below_alloc (Below.refl _ _) _) hb⟩
theorem node_right.drop_kid (l : List S46) (j : Nat) (hj : j < l.length) : l.drop j = rd_T46 l (j : Int) :: l.drop (j + 1) := by
  rw [List.drop_eq_getElem_cons hj]
  unfold rd_T46
  rw [Int.toNat_natCast, List.getD_eq_getElem?_getD, List.getElem?_eq_getElem hj]; rfl
set_option maxHeartbeats 8000000 in
set_option maxRecDepth 100000 in
theorem node_right.index_kid (p : S46 → Bool) (g : Nat) (lb : Array Value) (eg : ∀ args w, (callFunc g args).run Try.prog w = .ok (.enter g args) w) (A0 : Option Addr) (c0 : Nat) (l0 : List S46) (w : World) (hr0 : Kd.C k46 w A0 l0.length l0) (hl : l0.length ≤ 9223372036854775000)
    (hp : ∀ W x, Below w.heap.size w W → Calls Try.prog g (#[.agg #[.string x.f0, .int .i64 x.f1]] ++ lb) W fun e w' => e = .returned (.bool (p x)) ∧ Below W.heap.size W w') :
    Calls Try.prog 78 #[.slice A0 l0.length c0, .func (.func g) #[] lb] w fun e w' => e = .returned (.int .i64 (idxB p l0 0)) ∧ Below w.heap.size w w' := by
  have hu := Try.underlying46
  have HR0 := Aside0.mk hr0
  have HL := Aside0.mk hl
  have HB := Aside0.mk (Below.refl w.heap.size w)
  have HP := Aside0.mk hp
  clear hr0 hl hp
  obtain ⟨R, hR⟩ : ∃ R : Int, idxB p l0 0 = R := ⟨_, rfl⟩
  rw [hR]
  have HQ := Aside0.mk hR
  clear hR
  go_enter Try.func78, Try.ntmps78
  go_wp2
  go_loopg [8] (l0.length + 1) (fun kq v8 w' => ∃ j : Nat, v8 = .int .i64 (j : Int) ∧ Aside0 (j ≤ l0.length ∧ l0.length < j + kq) ∧ Aside0 (idxB p (l0.drop j) j = R) ∧ Aside0 (Below w.heap.size w w'))
  case atStart => exact ⟨0, rfl, ⟨⟨Nat.zero_le _, by omega⟩⟩, ⟨by rw [List.drop_zero]; exact HQ.out⟩, HB⟩
  case round =>
    clear HB
    obtain ⟨j, rfl, HJ, HI, HB⟩ := hrel
    cases gk with
    | zero => exact absurd HJ.out (by omega)
    | succ k1 =>
      by_cases hj : j < l0.length
      · obtain ⟨ad, e, hx0, hx1⟩ := at_T46 HR0.out (j : Int) (by omega) (by omega)
        cases e
        rw [Int.toNat_natCast] at hx0 hx1
        replace hx0 := (HB.out.cell (World.block_lt_of_cell? w _ hx0)).trans hx0
        replace hx1 := (HB.out.cell (World.block_lt_of_cell? w _ hx1)).trans hx1
        have HI2 := Aside0.mk (show (if p (rd_T46 l0 (j : Int)) = true then (j : Int) else idxB p (l0.drop (j + 1)) (j + 1)) = R by have := HI.out; rw [node_right.drop_kid l0 j hj] at this; exact this)
        clear HI
        generalize rd_T46 l0 (j : Int) = x at *
        obtain ⟨q, hq⟩ : ∃ q, p x = q := ⟨_, rfl⟩
        have hcall := HP.out _ x HB.out
        rw [hq] at hcall HI2
        have HC := Aside0.mk hcall
        clear hcall hq
        have d0 : decide ((j : Int) < (l0.length : Int)) = true := decide_eq_true (by omega)
        have d1 : decide (0 ≤ (j : Int)) = true := decide_eq_true (by omega)
        have d2 : IntKind.i64.wrap ((j : Int) + 1) = ((j + 1 : Nat) : Int) := by have := HL.out; rw [i64_w]; unfold wrap64; omega
        cases q with
        | true =>
          go_wp2_with (go_at_fn g; refine HC.out.mono ?_; rintro e w' ⟨rfl, hb⟩)
          go_ret
          have h2 : (j : Int) = R := HI2.out
          exact ⟨ret_i h2, below_step HB.out hb⟩
        | false =>
          go_wp2_with (go_at_fn g; refine HC.out.mono ?_; rintro e w' ⟨rfl, hb⟩)
          go_roundg k1
          case measure => omega
          case rel => exact ⟨j + 1, by (rfl), ⟨by have := HJ.out; omega⟩, ⟨by have h2 := HI2.out; simpa using h2⟩, ⟨below_step HB.out hb⟩⟩
      · have d0 : decide ((j : Int) < (l0.length : Int)) = false := decide_eq_false (by omega)
        go_wp2
        go_ret
        have h2 := HI.out
        rw [List.drop_of_length_le (by omega)] at h2
        have h3 : (-1 : Int) = R := h2
        exact ⟨ret_i h3, HB.out⟩
set_option maxHeartbeats 8000000 in
theorem node_right.contains_kid (p : S46 → Bool) (g : Nat) (lb : Array Value) (eg : ∀ args w, (callFunc g args).run Try.prog w = .ok (.enter g args) w) (A0 : Option Addr) (c0 : Nat) (l0 : List S46) (w : World) (hr0 : Kd.C k46 w A0 l0.length l0) (hl : l0.length ≤ 9223372036854775000)
    (hp : ∀ W x, Below w.heap.size w W → Calls Try.prog g (#[.agg #[.string x.f0, .int .i64 x.f1]] ++ lb) W fun e w' => e = .returned (.bool (p x)) ∧ Below W.heap.size W w') :
    Calls Try.prog 64 #[.slice A0 l0.length c0, .func (.func g) #[] lb] w fun e w' => e = .returned (.bool (l0.any p)) ∧ Below w.heap.size w w' := by
  have hq := idxB_any p l0 0 (by omega)
  have HQ := Aside0.mk hq
  have hc := node_right.index_kid p g lb eg A0 c0 l0 w hr0 hl hp
  have HC := Aside0.mk hc
  clear hq hc hp hl hr0
  generalize idxB p l0 0 = R at *
  generalize l0.any p = q at *
  go_enter Try.func64, Try.ntmps64
  go_wp2_with (go_at_call 78; refine HC.out.mono ?_; rintro e w' ⟨rfl, hb⟩)
  all_goals
    go_ret
    exact ⟨ret_b (by rw [← HQ.out]), hb⟩
theorem node_right.rises_kid_loop (l : List S46) (hl : (l.length : Int) ≤ 9223372036854775000) (n : Nat) : ∀ (k j : Nat), n = l.length - j → n < k → j ≤ l.length →
    node_rises_Kid_node_kidKey.l0 k l (l.length : Int) (j : Int) = some (risesB ((l.drop (j - 1)).map (·.f0))) := by
  induction n with
  | zero =>
    intro k j hn hk hj
    obtain ⟨k, rfl⟩ : ∃ m, k = m + 1 := ⟨k - 1, by omega⟩
    have : j = l.length := by omega
    subst this
    simp only [node_rises_Kid_node_kidKey.l0]
    rw [if_neg (by omega)]
    congr 1
    have h1 : (l.drop (l.length - 1)).length ≤ 1 := by rw [List.length_drop]; omega
    generalize l.drop (l.length - 1) = q at h1
    match q, h1 with
    | [], _ => rfl
    | [_], _ => rfl
  | succ n ih =>
    intro k j hn hk hj
    obtain ⟨k, rfl⟩ : ∃ m, k = m + 1 := ⟨k - 1, by omega⟩
    simp only [node_rises_Kid_node_kidKey.l0]
    have hnext : wrap64 ((j : Int) + 1) = ((j + 1 : Nat) : Int) := by rw [wrap_in (by omega) (by omega)]; omega
    have hi := ih k (j + 1) (by omega) (by omega) (by omega)
    rw [if_pos (by omega)]
    by_cases h0 : j = 0
    · subst h0
      rw [if_neg (by omega), hnext, hi]
    · rw [if_pos (by omega), wrap_in (by omega) (by omega), if_pos (by omega), if_pos (by omega)]
      have hp : (j : Int) - 1 = ((j - 1 : Nat) : Int) := by omega
      rw [hp]
      unfold node_kidKey.f
      rw [Option.bind_some, if_pos (by omega), if_pos (by omega), Option.bind_some, hnext, hi]
      rw [node_right.drop_kid l (j - 1) (by omega), show j - 1 + 1 = j by omega, node_right.drop_kid l j (by omega), show j + 1 - 1 = j by omega, node_right.drop_kid l j (by omega)]
      simp only [List.map_cons, risesB]
      by_cases hb : Op.bytesLess (rd_T46 l ((j - 1 : Nat) : Int)).f0.toList (rd_T46 l (j : Int)).f0.toList = true
      · rw [if_pos hb, hb, Bool.true_and]
      · rw [if_neg hb]
        have : Op.bytesLess (rd_T46 l ((j - 1 : Nat) : Int)).f0.toList (rd_T46 l (j : Int)).f0.toList = false := by simpa using hb
        rw [this, Bool.false_and]
theorem node_right.rises_kid (l : List S46) (hl : (l.length : Int) ≤ 9223372036854775000) : node_rises_Kid_node_kidKey.f (l.length + 1) l = some (risesB (l.map (·.f0))) := by
  unfold node_rises_Kid_node_kidKey.f
  have := node_right.rises_kid_loop l hl l.length (l.length + 1) 0 (by omega) (by omega) (by omega)
  exact this
set_option maxHeartbeats 8000000 in
set_option maxRecDepth 100000 in
theorem node_right.calls_kid (A1 : Option Addr) (c1 : Nat) (l : List S44) (A2 : Option Addr) (c2 : Nat) (m : List S46) (w : World) (hr1 : Kd.C k44 w A1 l.length l) (hr2 : Kd.C k46 w A2 m.length m) (hc1 : l.length ≤ c1) (hc2 : m.length ≤ c2) (hl : (m.length : Int) ≤ 9223372036854775000) :
    Calls Try.prog 29 #[.agg #[.bool false, .slice A1 l.length c1, .slice A2 m.length c2]] w fun e w' => e = .returned (.bool (rightB false l m)) ∧ Below w.heap.size w w' := by
  have HF := Aside0.mk (node_right.rises_kid m hl)
  have HR := Aside0.mk hr2
  have HC1 := Aside0.mk hc2
  have HL := Aside0.mk hl
  have HB := Aside0.mk (Below.refl w.heap.size w)
  unfold rightB
  rw [if_neg (by decide)]
  have HK := fun (W : World) (hb : Below w.heap.size w W) => node_right.contains_kid (fun x => !(kidFits x)) 65 #[.pointer (some ⟨w.heap.size + 1, 0, none⟩)] (enters_of Try.func65 (by kernel_rfl) rfl) A2 c2 m W
  have HK2 := Aside0.mk HK
  generalize risesB (m.map (·.f0)) = b at *
  generalize (m.any fun x => !(kidFits x)) = q at *
  clear HK hr1 hr2 hl hc1 hc2
  by_cases d1 : ((l.length : Int) == 0) = true
  · have d1' : (l.length == 0) = true := by simpa using d1
    by_cases d2 : decide (0 < (m.length : Int)) = true
    · have d2' : decide (0 < m.length) = true := by simpa using d2
      cases b with
      | true =>
        go_enter Try.func29, Try.ntmps29
        go_wp2_with (first
          | (go_at_call 63; refine (node_rises_Kid_node_kidKey.calls (m.length + 1) A2 c2 m true _ (Kd.C_below HR.out (by repeat (first | exact Below.refl _ _ | apply below_alloc ))) HC1.out HF.out).mono ?_; rintro e w1 ⟨rfl, hb1⟩; obtain ⟨hc, hf⟩ := bcell hb1
             have HB1 := Aside0.mk (below_step (w := w) (by repeat (first | exact Below.refl _ _ | apply below_alloc )) hb1)
             have HC58 := Aside0.mk ((hc (w.heap.size + 1) 0 (by simp)).trans (show _ = some (.func (.func 62) #[] #[]) by simp))
             clear HB)
          | (go_at_call 64; refine (HK2.out _ HB1.out (Kd.C_below HR.out HB1.out) (by have := HL.out; omega) (fun W x hbW => node_right.nofits_kid (w.heap.size + 1) x W ((hbW.cell (World.block_lt_of_cell? _ _ HC58.out)).trans HC58.out))).mono ?_; rintro e w2 ⟨rfl, hb2⟩))
        all_goals
          go_ret
          exact ⟨ret_b (by simp_all), below_step HB1.out hb2⟩
      | false =>
        go_enter Try.func29, Try.ntmps29
        go_wp2_with (go_at_call 63; refine (node_rises_Kid_node_kidKey.calls (m.length + 1) A2 c2 m false _ (Kd.C_below HR.out (by repeat (first | exact Below.refl _ _ | apply below_alloc ))) HC1.out HF.out).mono ?_; rintro e w1 ⟨rfl, hb1⟩; obtain ⟨hc, hf⟩ := bcell hb1
                     have HB1 := Aside0.mk (below_step (w := w) (by repeat (first | exact Below.refl _ _ | apply below_alloc )) hb1)
                     clear HB)
        all_goals
          go_ret
          exact ⟨ret_b (by simp_all), HB1.out⟩
    · have d2' : decide (0 < m.length) = false := by simpa using d2
      have d2'' : decide (0 < (m.length : Int)) = false := by simpa using d2
      clear d2
      go_enter Try.func29, Try.ntmps29
      go_wp2
      all_goals
        go_ret
        exact ⟨ret_b (by simp_all), by repeat (first | exact Below.refl _ _ | apply below_alloc )⟩
  · have d1' : (l.length == 0) = false := by simpa using d1
    have d1'' : ((l.length : Int) == 0) = false := by simpa using d1
    clear d1
    go_enter Try.func29, Try.ntmps29
    go_wp2
    all_goals
      go_ret
      exact ⟨ret_b (by simp_all), by repeat (first | exact Below.refl _ _ | apply below_alloc )⟩
theorem node_right.calls (a0_0 : Bool) (A0_1 : Option Addr) (c0_1 : Nat) (l0_1 : List (S44)) (A0_2 : Option Addr) (c0_2 : Nat) (l0_2 : List (S46)) (r : Bool) (w : World) (hr0_1 : Kd.C k44 w A0_1 l0_1.length l0_1) (hc0_1 : l0_1.length ≤ c0_1) (hr0_2 : Kd.C k46 w A0_2 l0_2.length l0_2) (hc0_2 : l0_2.length ≤ c0_2) (h : node_right.f a0_0 l0_1 l0_2 = some r) :
    Calls Try.prog 29 #[.agg #[.bool a0_0, .slice A0_1 l0_1.length c0_1, .slice A0_2 l0_2.length c0_2]] w fun e w' => e = .returned (.bool r) ∧ Below w.heap.size w w' := by
  unfold node_right.f at h
  split at h
  case isFalse => cases h
  case isTrue hh =>
  obtain rfl := Option.some.inj h
  cases a0_0 with
  | true => exact node_right.calls_item A0_1 c0_1 l0_1 A0_2 c0_2 l0_2 w hr0_1 hr0_2 hc0_1 hc0_2 hh.1
  | false => exact node_right.calls_kid A0_1 c0_1 l0_1 A0_2 c0_2 l0_2 w hr0_1 hr0_2 hc0_1 hc0_2 hh.2


end Go.Proofs.Ytdkbikaheagbfaa.PT
