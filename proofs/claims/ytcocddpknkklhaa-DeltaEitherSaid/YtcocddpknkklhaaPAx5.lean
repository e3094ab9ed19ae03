-- WRITTEN BY a program of this session (pp.sh)
import Derived.Test.YtcocddpknkklhaaPAx0
import Derived.Test.YtcocddpknkklhaaPAx4
namespace Go.Proofs.Ytcocddpknkklhaa.PA
open Go.RowKit Go.Proofs.YtcocddpknkklhaaW.PrintWords Go.Proofs.YtcocddpknkklhaaW.PrintLast Go.Proofs.YtcocddpknkklhaaW.PrintMore Go.Proofs.Ytcocddpknkklhaa.Plain
attribute [local go_sem] max2_int min2_int max_two min_two max_three min_three max_four min_four binOp_leq_s binOp_gtr_s binOp_geq_s lit_byte   -- for this text's walks alone
set_option linter.unusedVariables false
set_option linter.unusedSimpArgs false

/-! ### delta_Check: function 19, by hand -/
/-- Is a change right? -/
def delta_Check.rightB (x : S61) : Bool := if (x.f1 && x.f2) = true then x.f3.toList != x.f4.toList else if x.f1 = true then x.f4.toList == ([] : List UInt8) else if x.f2 = true then x.f3.toList == ([] : List UInt8) else false
theorem delta_Check.bE (l : List UInt8) : (l == ([] : List UInt8)) = l.isEmpty := by cases l <;> rfl
theorem delta_Check.right (x : S61) (w : World) : Calls Try.prog 45 #[.agg #[.string x.f0, .bool x.f1, .bool x.f2, .string x.f3, .string x.f4]] w fun e w' => e = .returned (.bool (delta_Check.rightB x)) ∧ Below w.heap.size w w' := by
  have hb : Below w.heap.size w (w.alloc (.cells #[.string x.f0, .bool x.f1, .bool x.f2, .string x.f3, .string x.f4] 61)) := (Below.refl _ w).alloc (Nat.le_refl _) _
  have HB := Aside0.mk hb
  clear hb
  obtain ⟨k, h, n, o, v⟩ := x
  cases h <;> cases n
  all_goals
    go_enter Try.func45, Try.ntmps45
    go_wp2
    go_ret
    exact ⟨ret_b (by first | rfl | (simp [delta_Check.rightB, delta_Check.bE]; done) | (simp [delta_Check.rightB, delta_Check.bE] <;> rfl)), HB.out⟩
theorem delta_Check.no (x : S61) (w : World) : Calls Try.prog 44 #[.agg #[.string x.f0, .bool x.f1, .bool x.f2, .string x.f3, .string x.f4]] w fun e w' => e = .returned (.bool !(delta_Check.rightB x)) ∧ Below w.heap.size w w' := by
  have hw0 := Aside0.mk (show Below w.heap.size w (w.alloc (.cells #[.string x.f0, .bool x.f1, .bool x.f2, .string x.f3, .string x.f4] 61)) from (Below.refl _ w).alloc (Nat.le_refl _) _)
  have hr := Aside0.mk (fun W => delta_Check.right x W)
  generalize delta_Check.rightB x = q at *
  go_enter Try.func44, Try.ntmps44
  go_wp2_with (go_at_call 45; (with_reducible refine (hr.out _).mono ?_); rintro e w1 ⟨rfl, hb⟩; have HB1 := Aside0.mk (below_step hw0.out hb); clear hb)
  go_ret
  exact ⟨ret_b rfl, HB1.out⟩
set_option maxHeartbeats 8000000 in
set_option maxRecDepth 100000 in
theorem delta_Check.index_change (p : S61 → Bool) (g : Nat) (lb : Array Value) (eg : ∀ args w, (callFunc g args).run Try.prog w = .ok (.enter g args) w) (A0 : Option Addr) (c0 : Nat) (l0 : List S61) (w : World) (hr0 : Kd.C k61 w A0 l0.length l0) (hl : l0.length ≤ 9223372036854775000)
    (hp : ∀ W x, Below w.heap.size w W → Calls Try.prog g (#[.agg #[.string x.f0, .bool x.f1, .bool x.f2, .string x.f3, .string x.f4]] ++ lb) W fun e w' => e = .returned (.bool (p x)) ∧ Below W.heap.size W w') :
    Calls Try.prog 67 #[.slice A0 l0.length c0, .func (.func g) #[] lb] w fun e w' => e = .returned (.int .i64 (idxB p l0 0)) ∧ Below w.heap.size w w' := by
  have hu := Try.underlying61
  have HR0 := Aside0.mk hr0
  have HL := Aside0.mk hl
  have HB := Aside0.mk (Below.refl w.heap.size w)
  have HP := Aside0.mk hp
  clear hr0 hl hp
  obtain ⟨R, hR⟩ : ∃ R : Int, idxB p l0 0 = R := ⟨_, rfl⟩
  rw [hR]
  have HQ := Aside0.mk hR
  clear hR
  go_enter Try.func67, Try.ntmps67
  go_wp2
  go_loopg [8] (l0.length + 1) (fun kq v8 w' => ∃ j : Nat, v8 = .int .i64 (j : Int) ∧ Aside0 (j ≤ l0.length ∧ l0.length < j + kq) ∧ Aside0 (idxB p (l0.drop j) j = R) ∧ Aside0 (Below w.heap.size w w'))
  case atStart => exact ⟨0, rfl, ⟨⟨Nat.zero_le _, by omega⟩⟩, ⟨by rw [List.drop_zero]; exact HQ.out⟩, HB⟩
  case round =>
    clear HB
    obtain ⟨j, rfl, HJ, HI, HB⟩ := hrel
    cases gk with
    | zero => exact absurd HJ.out (by omega)
    | succ k1 =>
      by_cases hj : j < l0.length
      · obtain ⟨ad, e, hx0, hx1, hx2, hx3, hx4⟩ := at_T61 HR0.out (j : Int) (by omega) (by omega)
        cases e
        rw [Int.toNat_natCast] at hx0 hx1 hx2 hx3 hx4
        replace hx0 := (HB.out.cell (World.block_lt_of_cell? w _ hx0)).trans hx0
        replace hx1 := (HB.out.cell (World.block_lt_of_cell? w _ hx1)).trans hx1
        replace hx2 := (HB.out.cell (World.block_lt_of_cell? w _ hx2)).trans hx2
        replace hx3 := (HB.out.cell (World.block_lt_of_cell? w _ hx3)).trans hx3
        replace hx4 := (HB.out.cell (World.block_lt_of_cell? w _ hx4)).trans hx4
        have HI2 := Aside0.mk (show (if p (rd_T61 l0 (j : Int)) = true then (j : Int) else idxB p (l0.drop (j + 1)) (j + 1)) = R by have := HI.out; rw [delta_rises.drop_change l0 j hj] at this; exact this)
        clear HI
        generalize rd_T61 l0 (j : Int) = x at *
        obtain ⟨q, hq⟩ : ∃ q, p x = q := ⟨_, rfl⟩
        have hcall := HP.out _ x HB.out
        rw [hq] at hcall HI2
        have HC := Aside0.mk hcall
        clear hcall hq
        have d0 : decide ((j : Int) < (l0.length : Int)) = true := decide_eq_true (by omega)
        have d1 : decide (0 ≤ (j : Int)) = true := decide_eq_true (by omega)
        have d2 : IntKind.i64.wrap ((j : Int) + 1) = ((j + 1 : Nat) : Int) := by have := HL.out; rw [i64_w]; unfold wrap64; omega
        cases q with
        | true =>
          go_wp2_with (go_at_fn g; refine HC.out.mono ?_; rintro e w' ⟨rfl, hb⟩)
          go_ret
          have h2 : (j : Int) = R := HI2.out
          exact ⟨ret_i h2, below_step HB.out hb⟩
        | false =>
          go_wp2_with (go_at_fn g; refine HC.out.mono ?_; rintro e w' ⟨rfl, hb⟩)
          go_roundg k1
          case measure => omega
          case rel => exact ⟨j + 1, by first | rfl | (simp [*]; done) | skip, ⟨by have := HJ.out; omega⟩, ⟨by have h2 := HI2.out; simpa using h2⟩, ⟨below_step HB.out hb⟩⟩
      · have d0 : decide ((j : Int) < (l0.length : Int)) = false := decide_eq_false (by omega)
        go_wp2
        go_ret
        have h2 := HI.out
        rw [List.drop_of_length_le (by omega)] at h2
        have h3 : (-1 : Int) = R := h2
        exact ⟨ret_i h3, HB.out⟩
set_option maxHeartbeats 8000000 in
theorem delta_Check.contains_change (p : S61 → Bool) (g : Nat) (lb : Array Value) (eg : ∀ args w, (callFunc g args).run Try.prog w = .ok (.enter g args) w) (A0 : Option Addr) (c0 : Nat) (l0 : List S61) (w : World) (hr0 : Kd.C k61 w A0 l0.length l0) (hl : l0.length ≤ 9223372036854775000)
    (hp : ∀ W x, Below w.heap.size w W → Calls Try.prog g (#[.agg #[.string x.f0, .bool x.f1, .bool x.f2, .string x.f3, .string x.f4]] ++ lb) W fun e w' => e = .returned (.bool (p x)) ∧ Below W.heap.size W w') :
    Calls Try.prog 43 #[.slice A0 l0.length c0, .func (.func g) #[] lb] w fun e w' => e = .returned (.bool (l0.any p)) ∧ Below w.heap.size w w' := by
  have hq := idxB_any p l0 0 (by omega)
  have HQ := Aside0.mk hq
  have hc := delta_Check.index_change p g lb eg A0 c0 l0 w hr0 hl hp
  have HC := Aside0.mk hc
  clear hq hc hp hl hr0
  generalize idxB p l0 0 = R at *
  generalize l0.any p = q at *
  go_enter Try.func43, Try.ntmps43
  go_wp2_with (go_at_call 67; refine HC.out.mono ?_; rintro e w' ⟨rfl, hb⟩)
  all_goals
    go_ret
    exact ⟨ret_b (by rw [← HQ.out]), hb⟩
/-- delta.Check. -/
def delta_Check.f (l : List S61) : Option Int := if l.length ≤ 1000000000 then some (if (delta_rises.sortB_change l && delta_rises.neB_change l && !(l.any fun x => !(delta_Check.rightB x))) = true then 0 else 21) else none
set_option maxHeartbeats 4000000 in
set_option maxRecDepth 100000 in
theorem delta_Check.calls (A0 : Option Addr) (c0 : Nat) (l0 : List S61) (r : Int) (w : World) (hr0 : Kd.C k61 w A0 l0.length l0) (hc0 : l0.length ≤ c0) (h : delta_Check.f l0 = some r) :
    Calls Try.prog 19 #[.slice A0 l0.length c0] w fun e w' => e = .returned (.int .i64 r) ∧ Below w.heap.size w w' := by
  unfold delta_Check.f at h
  by_cases hl : l0.length ≤ 1000000000
  · rw [if_pos hl] at h
    obtain rfl := Option.some.inj h
    have eg := enters_of (P := Try.prog) Try.func44 (by kernel_rfl) rfl
    have HR := Aside0.mk (delta_rises.all_change A0 c0 l0 w hr0 hc0 hl)
    have HK := Aside0.mk (fun W (hb : Below w.heap.size w W) => delta_Check.contains_change (fun x => !(delta_Check.rightB x)) 44 #[] (fun args w => eg args w) A0 c0 l0 W (Kd.C_below hr0 hb) (by omega) (fun W2 x _ => (delta_Check.no x W2).mono fun e w' ⟨he, hb⟩ => ⟨he, hb⟩))
    clear h hr0 hc0 hl
    generalize (delta_rises.sortB_change l0 && delta_rises.neB_change l0) = q at *
    generalize (l0.any fun x => !(delta_Check.rightB x)) = q2 at *
    cases q with
    | false =>
      go_enter Try.func19, Try.ntmps19
      go_wp2_with (go_at_call 42; (with_reducible refine HR.out.mono ?_); rintro e w1 ⟨rfl, hb⟩; have HB1 := Aside0.mk hb; clear hb)
      go_ret
      exact ⟨ret_i rfl, HB1.out⟩
    | true =>
      cases q2
      all_goals
        go_enter Try.func19, Try.ntmps19
        go_wp2_with (first
          | (go_at_call 42; (with_reducible refine HR.out.mono ?_); rintro e w1 ⟨rfl, hb⟩; have HB1 := Aside0.mk hb; clear hb)
          | (go_at_call 43; (with_reducible refine (HK.out _ HB1.out).mono ?_); rintro e w2 ⟨rfl, hb⟩; have HB2 := Aside0.mk (below_step HB1.out hb); clear hb))
        go_ret
        exact ⟨ret_i rfl, HB2.out⟩
  · rw [if_neg hl] at h; cases h
/-- The cells of one item. -/
def delta_beside.At_item (W : World) (q : Addr) (x : S59) : Prop := W.cell? q = some (.string x.f0) ∧ W.cell? ⟨q.block, q.off + 1, none⟩ = some (.string x.f1)
theorem delta_beside.At_item.below {W W' : World} {q : Addr} {x : S59} (h : delta_beside.At_item W q x) (hb : Below W.heap.size W W') : delta_beside.At_item W' q x :=
  ⟨(hb.cell (World.block_lt_of_cell? _ _ h.1)).trans h.1, (hb.cell (World.block_lt_of_cell? _ _ h.2)).trans h.2⟩
/-- A pointer to one, or to none. -/
def delta_beside.Pt_item (W : World) (v : Value) : Option S59 → Prop
  | none => v = .pointer none
  | some x => ∃ q : Addr, v = .pointer (some q) ∧ delta_beside.At_item W q x
theorem delta_beside.head_item {w : World} {A : Option Addr} {n c : Nat} {x : S59} {r : List S59} (hr : Kd.C k59 w A (x :: r).length (x :: r)) (hn : n = (x :: r).length) (hc : n ≤ c) :
    ∃ q, A = some q ∧ delta_beside.At_item w q x ∧ ∃ A', (∀ W : World, (Instr.slice 22 (.slice (some q) n c) (some (.int .i64 1)) none none).run Try.prog W = .ok (.slice A' (n - 1) (c - 1)) W) ∧ Kd.C k59 w A' r.length r := by
  subst hn
  obtain ⟨ad, e, h0, h1⟩ := at_T59 hr 0 (by omega) (by simp)
  subst e
  have ez : ad.add ((0 : Int).toNat * 2) = ad := by simp [Addr.add]
  rw [ez] at h0 h1
  refine ⟨ad, rfl, ⟨h0, h1⟩, _, fun W => ?_, Kd.C_drop hr (m := 1) (by simp) hc⟩
  have hel : Try.prog.elem 22 = 59 := by simp [Program.elem, Try.underlying22]
  have hu : Try.prog.underlying 22 = some (.slice (Try.prog.elem 22)) := by rw [hel]; exact Try.underlying22
  obtain ⟨i0, hi0, hz⟩ := Option.map_eq_some_iff.1 info59
  simp only [Prod.mk.injEq] at hz
  rw [run_slice_l W 22 (some ad) (x :: r).length c hu .i64 1 (by omega) (by simp; omega), hel]
  simp [sizeOf, typeInfo, hi0, hz.2.1, sliced, Result.andThen]
  rfl
/-- The cells of one change. -/
def delta_beside.At_change (W : World) (q : Addr) (x : S61) : Prop := W.cell? q = some (.string x.f0) ∧ W.cell? ⟨q.block, q.off + 1, none⟩ = some (.bool x.f1) ∧ W.cell? ⟨q.block, q.off + 2, none⟩ = some (.bool x.f2) ∧ W.cell? ⟨q.block, q.off + 3, none⟩ = some (.string x.f3) ∧ W.cell? ⟨q.block, q.off + 4, none⟩ = some (.string x.f4)
theorem delta_beside.At_change.below {W W' : World} {q : Addr} {x : S61} (h : delta_beside.At_change W q x) (hb : Below W.heap.size W W') : delta_beside.At_change W' q x :=
  ⟨(hb.cell (World.block_lt_of_cell? _ _ h.1)).trans h.1, (hb.cell (World.block_lt_of_cell? _ _ h.2.1)).trans h.2.1, (hb.cell (World.block_lt_of_cell? _ _ h.2.2.1)).trans h.2.2.1, (hb.cell (World.block_lt_of_cell? _ _ h.2.2.2.1)).trans h.2.2.2.1, (hb.cell (World.block_lt_of_cell? _ _ h.2.2.2.2)).trans h.2.2.2.2⟩
/-- A pointer to one, or to none. -/
def delta_beside.Pt_change (W : World) (v : Value) : Option S61 → Prop
  | none => v = .pointer none
  | some x => ∃ q : Addr, v = .pointer (some q) ∧ delta_beside.At_change W q x
theorem delta_beside.head_change {w : World} {A : Option Addr} {n c : Nat} {x : S61} {r : List S61} (hr : Kd.C k61 w A (x :: r).length (x :: r)) (hn : n = (x :: r).length) (hc : n ≤ c) :
    ∃ q, A = some q ∧ delta_beside.At_change w q x ∧ ∃ A', (∀ W : World, (Instr.slice 23 (.slice (some q) n c) (some (.int .i64 1)) none none).run Try.prog W = .ok (.slice A' (n - 1) (c - 1)) W) ∧ Kd.C k61 w A' r.length r := by
  subst hn
  obtain ⟨ad, e, h0, h1, h2, h3, h4⟩ := at_T61 hr 0 (by omega) (by simp)
  subst e
  have ez : ad.add ((0 : Int).toNat * 5) = ad := by simp [Addr.add]
  rw [ez] at h0 h1 h2 h3 h4
  refine ⟨ad, rfl, ⟨h0, h1, h2, h3, h4⟩, _, fun W => ?_, Kd.C_drop hr (m := 1) (by simp) hc⟩
  have hel : Try.prog.elem 23 = 61 := by simp [Program.elem, Try.underlying23]
  have hu : Try.prog.underlying 23 = some (.slice (Try.prog.elem 23)) := by rw [hel]; exact Try.underlying23
  obtain ⟨i0, hi0, hz⟩ := Option.map_eq_some_iff.1 info61
  simp only [Prod.mk.injEq] at hz
  rw [run_slice_l W 23 (some ad) (x :: r).length c hu .i64 1 (by omega) (by simp; omega), hel]
  simp [sizeOf, typeInfo, hi0, hz.2.1, sliced, Result.andThen]
  rfl
/-- What has been made lies in the captured variable (block B). -/
structure delta_beside.Out_item (w0 W : World) (B : Nat) (v : Value) (l : List S59) : Prop where
  hB : W.heap[B]? = some (.cells #[v] 22 (0, 0))
  hR : Kd.R k59 59 W w0.heap.size (fun k => k ≠ B) v l
  hw : Below w0.heap.size w0 W
  hge : w0.heap.size ≤ B
theorem delta_beside.Out_item.below {w0 W W' : World} {B : Nat} {v : Value} {l : List S59} (h : delta_beside.Out_item w0 W B v l) (hb : Below W.heap.size W W') : delta_beside.Out_item w0 W' B v l :=
  ⟨blk_below h.hB hb, Kd.R_below h.hR hb, below_step h.hw hb, h.hge⟩
theorem delta_beside.Out_item.alloc {w0 W : World} {B : Nat} {v : Value} {l : List S59} (h : delta_beside.Out_item w0 W B v l) (o : Obj) : delta_beside.Out_item w0 (W.alloc o) B v l := h.below (below_alloc (Below.refl _ _) o)
theorem delta_beside.Out_item.drew {w0 W : World} {B : Nat} {v : Value} {l : List S59} (h : delta_beside.Out_item w0 W B v l) : delta_beside.Out_item w0 W.drew B v l := h.below (below_drew (Below.refl _ _))
theorem delta_beside.Out_item.cell {w0 W : World} {B : Nat} {v : Value} {l : List S59} (h : delta_beside.Out_item w0 W B v l) : W.cell? ⟨B, 0, none⟩ = some v := (blk_cell h.hB 0).trans rfl
theorem delta_beside.Out_item.fro {w0 W : World} {B : Nat} {v : Value} {l : List S59} (h : delta_beside.Out_item w0 W B v l) : W.frozen? ⟨B, 0, none⟩ = false := blk_frozen h.hB 0
theorem delta_beside.Out_item.fresh {w0 W : World} {B : Nat} {v : Value} {l : List S59} (h : delta_beside.Out_item w0 W B v l) (k : Nat) (hk : W.heap.size ≤ k) : k ≠ B := by have := blk_lt h.hB; omega
/-- An append. -/
theorem delta_beside.Out_item.grown {w0 W w1 : World} {B : Nat} {v : Value} {l : List S59} (h : delta_beside.Out_item w0 W B v l) (hg : W.grownBy w1 v.ownBlock) : w1.heap[B]? = some (.cells #[v] 22 (0, 0)) :=
  blk_grown h.hB hg (Kd.R_away h.hR (fun _ hk => hk))
/-- .. and the store of what it made. -/
theorem delta_beside.Out_item.put {w0 W w1 : World} {B : Nat} {v v1 : Value} {l l' : List S59} (h : delta_beside.Out_item w0 W B v l) (hB : w1.heap[B]? = some (.cells #[v] 22 (0, 0))) (ho : Kd.R k59 59 w1 w0.heap.size (fun k => k ≠ B) v1 l') (hb : Below w0.heap.size w0 w1) : delta_beside.Out_item w0 (w1.setCell ⟨B, 0, none⟩ v1) B v1 l' :=
  ⟨blk_put hB 0 v1 rfl, Kd.R_far (p := ⟨B, 0, none⟩) ho (fun _ hk => hk) v1, hb.setCell h.hge _, h.hge⟩
/-- What has been made lies in the captured variable (block B). -/
structure delta_beside.Out_change (w0 W : World) (B : Nat) (v : Value) (l : List S61) : Prop where
  hB : W.heap[B]? = some (.cells #[v] 23 (0, 0))
  hR : Kd.R k61 61 W w0.heap.size (fun k => k ≠ B) v l
  hw : Below w0.heap.size w0 W
  hge : w0.heap.size ≤ B
theorem delta_beside.Out_change.below {w0 W W' : World} {B : Nat} {v : Value} {l : List S61} (h : delta_beside.Out_change w0 W B v l) (hb : Below W.heap.size W W') : delta_beside.Out_change w0 W' B v l :=
  ⟨blk_below h.hB hb, Kd.R_below h.hR hb, below_step h.hw hb, h.hge⟩
theorem delta_beside.Out_change.alloc {w0 W : World} {B : Nat} {v : Value} {l : List S61} (h : delta_beside.Out_change w0 W B v l) (o : Obj) : delta_beside.Out_change w0 (W.alloc o) B v l := h.below (below_alloc (Below.refl _ _) o)
theorem delta_beside.Out_change.drew {w0 W : World} {B : Nat} {v : Value} {l : List S61} (h : delta_beside.Out_change w0 W B v l) : delta_beside.Out_change w0 W.drew B v l := h.below (below_drew (Below.refl _ _))
theorem delta_beside.Out_change.cell {w0 W : World} {B : Nat} {v : Value} {l : List S61} (h : delta_beside.Out_change w0 W B v l) : W.cell? ⟨B, 0, none⟩ = some v := (blk_cell h.hB 0).trans rfl
theorem delta_beside.Out_change.fro {w0 W : World} {B : Nat} {v : Value} {l : List S61} (h : delta_beside.Out_change w0 W B v l) : W.frozen? ⟨B, 0, none⟩ = false := blk_frozen h.hB 0
theorem delta_beside.Out_change.fresh {w0 W : World} {B : Nat} {v : Value} {l : List S61} (h : delta_beside.Out_change w0 W B v l) (k : Nat) (hk : W.heap.size ≤ k) : k ≠ B := by have := blk_lt h.hB; omega
/-- An append. -/
theorem delta_beside.Out_change.grown {w0 W w1 : World} {B : Nat} {v : Value} {l : List S61} (h : delta_beside.Out_change w0 W B v l) (hg : W.grownBy w1 v.ownBlock) : w1.heap[B]? = some (.cells #[v] 23 (0, 0)) :=
  blk_grown h.hB hg (Kd.R_away h.hR (fun _ hk => hk))
/-- .. and the store of what it made. -/
theorem delta_beside.Out_change.put {w0 W w1 : World} {B : Nat} {v v1 : Value} {l l' : List S61} (h : delta_beside.Out_change w0 W B v l) (hB : w1.heap[B]? = some (.cells #[v] 23 (0, 0))) (ho : Kd.R k61 61 w1 w0.heap.size (fun k => k ≠ B) v1 l') (hb : Below w0.heap.size w0 w1) : delta_beside.Out_change w0 (w1.setCell ⟨B, 0, none⟩ v1) B v1 l' :=
  ⟨blk_put hB 0 v1 rfl, Kd.R_far (p := ⟨B, 0, none⟩) ho (fun _ hk => hk) v1, hb.setCell h.hge _, h.hge⟩
/-- All changes are right, and rise. -/
def delta_Check.all (l : List S61) : Bool := delta_rises.sortB_change l && delta_rises.neB_change l && !(l.any fun x => !(delta_Check.rightB x))
theorem delta_Check.all_calls (A0 : Option Addr) (c0 : Nat) (l0 : List S61) (w : World) (hr0 : Kd.C k61 w A0 l0.length l0) (hc0 : l0.length ≤ c0) (hl : l0.length ≤ 1000000000) (b : Bool) (hb : delta_Check.all l0 = b) :
    Calls Try.prog 19 #[.slice A0 l0.length c0] w fun e w' => e = .returned (.int .i64 (if b = true then 0 else 21)) ∧ Below w.heap.size w w' := by
  refine (delta_Check.calls A0 c0 l0 _ w hr0 hc0 (if_pos hl)).mono fun e w' h => ⟨?_, h.2⟩
  rw [h.1, ← hb]
  rfl


end Go.Proofs.Ytcocddpknkklhaa.PA
