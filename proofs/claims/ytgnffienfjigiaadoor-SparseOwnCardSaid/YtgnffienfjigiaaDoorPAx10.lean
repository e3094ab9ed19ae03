-- WRITTEN BY a program of this session (pp.sh)
import Derived.Test.YtgnffienfjigiaaDoorPAx0
import Derived.Test.YtgnffienfjigiaaDoorPAx3
import Derived.Test.YtgnffienfjigiaaDoorPAx9
namespace Go.Proofs.YtgnffienfjigiaaDoor.PA
open Go.RowKit Go.Proofs.YtgnffienfjigiaaDoorW.PrintWords Go.Proofs.YtgnffienfjigiaaDoorW.PrintLast Go.Proofs.YtgnffienfjigiaaDoorW.PrintMore Go.Proofs.YtgnffienfjigiaaDoor.Plain
attribute [local go_sem] max2_int min2_int max_two min_two max_three min_three max_four min_four binOp_leq_s binOp_gtr_s binOp_geq_s lit_byte   -- for this text's walks alone
set_option linter.unusedVariables false
set_option linter.unusedSimpArgs false

/-! ### sparse_Punch: function 17, by hand -/
def sparse_Punch.lo (size off : Int) : Int := min off size
def sparse_Punch.hi (size off n : Int) : Int := min off size + min n (size - min off size)
def sparse_Punch.goneB (size off n i : Int) : Bool := decide (i * 64 ≥ sparse_Punch.lo size off) && (decide (min size ((i + 1) * 64) ≤ sparse_Punch.hi size off n) && decide (sparse_Punch.lo size off < sparse_Punch.hi size off n))
set_option maxHeartbeats 4000000 in
theorem sparse_Punch.gone (W : World) (A B C : Nat) (off size tt i : Int) (hi0 : 0 ≤ i) (hi1 : i ≤ 72057594037927936) (ha : W.cell? ⟨A, 0, none⟩ = some (.int .i64 off)) (hb : W.cell? ⟨B, 0, none⟩ = some (.int .i64 size)) (hc : W.cell? ⟨C, 0, none⟩ = some (.int .i64 tt)) :
    Calls Tryd.prog 33 #[.int .i64 i, .pointer (some ⟨A, 0, none⟩), .pointer (some ⟨B, 0, none⟩), .pointer (some ⟨C, 0, none⟩)] W fun e w' => e = .returned (.bool (decide (i * 64 ≥ off) && (decide (min size ((i + 1) * 64) ≤ tt) && decide (off < tt)))) ∧ Below W.heap.size W w' := by
  have e1 : IntKind.i64.wrap (i * 64) = i * 64 := by rw [IntKind.wrap_i64]; omega
  have e2 : IntKind.i64.wrap (i + 1) = i + 1 := by rw [IntKind.wrap_i64]; omega
  have e3 : IntKind.i64.wrap ((i + 1) * 64) = (i + 1) * 64 := by rw [IntKind.wrap_i64]; omega
  by_cases c1 : i * 64 ≥ off
  · have d1 : decide (i * 64 ≥ off) = true := decide_eq_true c1
    rcases Int.lt_or_le size ((i + 1) * 64) with c0 | c0
    · have m0 : min size ((i + 1) * 64) = size := by omega
      have c4 : size ≤ (i + 1) * 64 := by omega
      have c5 : ¬ ((i + 1) * 64 < size) := by omega
      rw [m0, d1]
      by_cases c2 : size ≤ tt
      · have d2 : decide (size ≤ tt) = true := decide_eq_true c2
        go_enter Tryd.func33, Tryd.ntmps33
        go_wp2
        go_ret
        exact ⟨by first | rfl | (rw [d2]; rfl), Below.refl _ _⟩
      · have d2 : decide (size ≤ tt) = false := decide_eq_false c2
        go_enter Tryd.func33, Tryd.ntmps33
        go_wp2
        go_ret
        exact ⟨by first | rfl | (rw [d2]; rfl), Below.refl _ _⟩
    · have m0 : min size ((i + 1) * 64) = (i + 1) * 64 := by omega
      have c4 : ¬ (size < (i + 1) * 64) := by omega
      rw [m0, d1]
      by_cases c2 : (i + 1) * 64 ≤ tt
      · have d2 : decide ((i + 1) * 64 ≤ tt) = true := decide_eq_true c2
        rcases Int.lt_or_le ((i + 1) * 64) size with c6 | c6
        · have c7 : ¬ (size ≤ (i + 1) * 64) := by omega
          go_enter Tryd.func33, Tryd.ntmps33
          go_wp2
          go_ret
          exact ⟨by first | rfl | (rw [d2]; rfl), Below.refl _ _⟩
        · obtain rfl : size = (i + 1) * 64 := by omega
          go_enter Tryd.func33, Tryd.ntmps33
          go_wp2
          go_ret
          exact ⟨by first | rfl | (rw [d2]; rfl), Below.refl _ _⟩
      · have d2 : decide ((i + 1) * 64 ≤ tt) = false := decide_eq_false c2
        rcases Int.lt_or_le ((i + 1) * 64) size with c6 | c6
        · have c7 : ¬ (size ≤ (i + 1) * 64) := by omega
          go_enter Tryd.func33, Tryd.ntmps33
          go_wp2
          go_ret
          exact ⟨by first | rfl | (rw [d2]; rfl), Below.refl _ _⟩
        · obtain rfl : size = (i + 1) * 64 := by omega
          go_enter Tryd.func33, Tryd.ntmps33
          go_wp2
          go_ret
          exact ⟨by first | rfl | (rw [d2]; rfl), Below.refl _ _⟩
  · have d1 : decide (i * 64 ≥ off) = false := decide_eq_false c1
    rw [d1]
    go_enter Tryd.func33, Tryd.ntmps33
    go_wp2
    go_ret
    exact ⟨rfl, Below.refl _ _⟩
def sparse_Punch.f (k : Nat) (l0 : List S39) (a1 a2 a3 : Int) : Option (List S39 × Int) :=
  (sparse_Check.f k l0 a1).bind fun e => if e ≠ 0 then some ([], e) else if a2 < 0 ∨ a3 < 0 then some ([], 1) else
    if sparse_Truncate.okB l0 = true ∧ 0 ≤ a1 ∧ a1 ≤ 4611686018427387904 then some (sparse_Truncate.cut l0 (sparse_Punch.lo a1 a2) (sparse_Punch.hi a1 a2 a3) (sparse_Punch.goneB a1 a2 a3), 0) else none
theorem sparse_Punch.mono : ∀ a0 a1 a2 a3 k, LeO (sparse_Punch.f k a0 a1 a2 a3) (sparse_Punch.f (k + 1) a0 a1 a2 a3) := by
  intro a0 a1 a2 a3 k
  unfold sparse_Punch.f
  exact LeO.bind (sparse_Check.mono _ _ _) (fun e => LeO.refl _)
set_option maxHeartbeats 8000000 in
set_option maxRecDepth 100000 in
theorem sparse_Punch.calls (k : Nat) (A0 : Option Addr) (c0 : Nat) (l0 : List S39) (a1 a2 a3 : Int) (r1 : List S39) (r2 : Int) (w : World) (hr0 : Kd.C k39 w A0 l0.length l0) (hc0 : l0.length ≤ c0) (h : sparse_Punch.f k l0 a1 a2 a3 = some (r1, r2)) :
    Calls Tryd.prog 17 #[.slice A0 l0.length c0, .int .i64 a1, .int .i64 a2, .int .i64 a3] w fun e w' => ∃ v0_ : Value, e = .returned (.tuple #[v0_, .int .i64 r2]) ∧ Kd.R k39 39 w' w.heap.size (fun _ => True) v0_ r1 ∧ Below w.heap.size w w' := by
  unfold sparse_Punch.f at h
  obtain ⟨ec, hec, h⟩ := Option.bind_eq_some_iff.1 h
  have HEC := Aside0.mk hec
  have HR0 := Aside0.mk hr0
  have HC0 := Aside0.mk hc0
  have hb1 := below_alloc (below_alloc (Below.refl w.heap.size w) (.cells #[.int .i64 a1] 3)) (.cells #[.int .i64 a2] 3)
  have HB1 := Aside0.mk hb1
  have hsz : (w.alloc (.cells #[.int .i64 a1] 3)).heap.size = w.heap.size + 1 := Array.size_push ..
  have hn1 := blk_alloc (blk_new w (.cells #[.int .i64 a1] 3)) (.cells #[.int .i64 a2] 3)
  have hn2 := blk_new (w.alloc (.cells #[.int .i64 a1] 3)) (.cells #[.int .i64 a2] 3)
  rw [hsz] at hn2
  have HN1 := Aside0.mk hn1
  have HN2 := Aside0.mk hn2
  have hz1 : ((w.alloc (.cells #[.int .i64 a1] 3)).alloc (.cells #[.int .i64 a2] 3)).cell? ⟨w.heap.size, 0, none⟩ = some (.int .i64 a1) := (blk_cell hn1 0).trans rfl
  clear hec hr0 hc0 hb1 hn1 hn2
  split at h
  case isTrue hne =>
    obtain ⟨rfl, rfl⟩ : r1 = [] ∧ r2 = ec := by simpa [eq_comm] using h
    clear h
    have hn : ¬ (r2 = 0) := hne
    go_enter Tryd.func17, Tryd.ntmps17
    go_wp2_with (go_at_call 15; (with_reducible refine (sparse_Check.calls k A0 c0 l0 a1 _ _ (Kd.C_below HR0.out HB1.out) HC0.out HEC.out).mono ?_); rintro e w1 ⟨rfl, hb⟩; have HB := Aside0.mk (below_step HB1.out hb); have HM1 := Aside0.mk (blk_below HN1.out hb); have HM2 := Aside0.mk (blk_below HN2.out hb); have hm1 : w1.cell? ⟨w.heap.size, 0, none⟩ = some (.int .i64 a1) := (blk_cell HM1.out 0).trans rfl; have hm2 : w1.cell? ⟨w.heap.size + 1, 0, none⟩ = some (.int .i64 a2) := (blk_cell HM2.out 0).trans rfl; have hf2 := blk_frozen HM2.out 0; clear hb)
    go_ret2
    exact ⟨_, rfl, Kd.R_nil _ _ _ _ _, HB.out⟩
  case isFalse he0 =>
    obtain rfl : ec = 0 := by
      by_cases h0 : ec = 0
      · exact h0
      · exact absurd h0 he0
    clear he0
    go_enter Tryd.func17, Tryd.ntmps17
    split at h
    case isTrue hlt =>
      obtain ⟨rfl, rfl⟩ : r1 = [] ∧ r2 = 1 := by simpa [eq_comm] using h
      clear h
      by_cases c1 : a2 < 0
      · have d1 : decide (a2 < 0) = true := decide_eq_true c1
        go_wp2_with (go_at_call 15; (with_reducible refine (sparse_Check.calls k A0 c0 l0 a1 _ _ (Kd.C_below HR0.out HB1.out) HC0.out HEC.out).mono ?_); rintro e w1 ⟨rfl, hb⟩; have HB := Aside0.mk (below_step HB1.out hb); have HM1 := Aside0.mk (blk_below HN1.out hb); have HM2 := Aside0.mk (blk_below HN2.out hb); have hm1 : w1.cell? ⟨w.heap.size, 0, none⟩ = some (.int .i64 a1) := (blk_cell HM1.out 0).trans rfl; have hm2 : w1.cell? ⟨w.heap.size + 1, 0, none⟩ = some (.int .i64 a2) := (blk_cell HM2.out 0).trans rfl; have hf2 := blk_frozen HM2.out 0; clear hb)
        go_ret2
        exact ⟨_, rfl, Kd.R_nil _ _ _ _ _, HB.out⟩
      · have d1 : decide (a2 < 0) = false := decide_eq_false c1
        have d2 : decide (a3 < 0) = true := decide_eq_true (by omega)
        go_wp2_with (go_at_call 15; (with_reducible refine (sparse_Check.calls k A0 c0 l0 a1 _ _ (Kd.C_below HR0.out HB1.out) HC0.out HEC.out).mono ?_); rintro e w1 ⟨rfl, hb⟩; have HB := Aside0.mk (below_step HB1.out hb); have HM1 := Aside0.mk (blk_below HN1.out hb); have HM2 := Aside0.mk (blk_below HN2.out hb); have hm1 : w1.cell? ⟨w.heap.size, 0, none⟩ = some (.int .i64 a1) := (blk_cell HM1.out 0).trans rfl; have hm2 : w1.cell? ⟨w.heap.size + 1, 0, none⟩ = some (.int .i64 a2) := (blk_cell HM2.out 0).trans rfl; have hf2 := blk_frozen HM2.out 0; clear hb)
        go_ret2
        exact ⟨_, rfl, Kd.R_nil _ _ _ _ _, HB.out⟩
    case isFalse hge =>
      have d1 : decide (a2 < 0) = false := decide_eq_false (by omega)
      have d2 : decide (a3 < 0) = false := decide_eq_false (by omega)
      split at h
      case isFalse => cases h
      case isTrue hok =>
      obtain ⟨e1, e2⟩ : sparse_Truncate.cut l0 (sparse_Punch.lo a1 a2) (sparse_Punch.hi a1 a2 a3) (sparse_Punch.goneB a1 a2 a3) = r1 ∧ 0 = r2 := by simpa using h
      subst e1 e2
      clear h
      have HOK := Aside0.mk hok.1
      have q0 := hok.2.1
      have q1 := hok.2.2
      clear hok
      have eg : ∀ args w, (callFunc 33 args).run Tryd.prog w = .ok (.enter 33 args) w := fun args w => enters_ Tryd.func33 (by kernel_rfl) rfl args w
      have v0 : 0 ≤ sparse_Punch.lo a1 a2 := by unfold sparse_Punch.lo; omega
      have v1 : sparse_Punch.lo a1 a2 ≤ 4611686018427387904 := by unfold sparse_Punch.lo; omega
      have v2 : 0 ≤ sparse_Punch.hi a1 a2 a3 := by unfold sparse_Punch.hi; omega
      have v3 : sparse_Punch.hi a1 a2 a3 ≤ 4611686018427387904 := by unfold sparse_Punch.hi; omega
      go_upto_region 6 with (go_at_call 15; (with_reducible refine (sparse_Check.calls k A0 c0 l0 a1 _ _ (Kd.C_below HR0.out HB1.out) HC0.out HEC.out).mono ?_); rintro e w1 ⟨rfl, hb⟩; have HB := Aside0.mk (below_step HB1.out hb); have HM1 := Aside0.mk (blk_below HN1.out hb); have HM2 := Aside0.mk (blk_below HN2.out hb); have hm1 : w1.cell? ⟨w.heap.size, 0, none⟩ = some (.int .i64 a1) := (blk_cell HM1.out 0).trans rfl; have hm2 : w1.cell? ⟨w.heap.size + 1, 0, none⟩ = some (.int .i64 a2) := (blk_cell HM2.out 0).trans rfl; have hf2 := blk_frozen HM2.out 0; clear hb)
      go_cut [24, 25, 26] (fun v24 v25 v26 wc => ∃ W : World, W = wc ∧ Aside0 (Below w.heap.size w W) ∧ Aside0 (W.heap[w.heap.size]? = some (.cells #[.int .i64 a1] 3 (0, 0))) ∧ Aside0 (W.heap[w.heap.size + 1]? = some (.cells #[.int .i64 (sparse_Punch.lo a1 a2)] 3 (0, 0))))
      case first =>
        rcases Int.lt_or_le a2 a1 with c1 | c1
        · have c2 : ¬ (a1 < a2) := by omega
          have c3 : a2 ≤ a1 := by omega
          have e0 : sparse_Punch.lo a1 a2 = a2 := by unfold sparse_Punch.lo; omega
          go_wp2
          all_goals
            go_meet
            case rel => exact ⟨_, rfl, ⟨below_set HB.out (Nat.le_succ _)⟩, ⟨blk_far HM1.out (by show w.heap.size ≠ w.heap.size + 1; omega) _⟩, ⟨blk_put HM2.out 0 _ (by rw [e0]; rfl)⟩⟩
        · rcases Int.lt_or_le a1 a2 with c2 | c2
          · have c3 : ¬ (a2 < a1) := by omega
            have c4 : ¬ (a2 ≤ a1) := by omega
            have e0 : sparse_Punch.lo a1 a2 = a1 := by unfold sparse_Punch.lo; omega
            go_wp2
            all_goals
              go_meet
              case rel => exact ⟨_, rfl, ⟨below_set HB.out (Nat.le_succ _)⟩, ⟨blk_far HM1.out (by show w.heap.size ≠ w.heap.size + 1; omega) _⟩, ⟨blk_put HM2.out 0 _ (by rw [e0]; rfl)⟩⟩
          · obtain rfl : a1 = a2 := by omega
            have e0 : sparse_Punch.lo a1 a1 = a1 := by unfold sparse_Punch.lo; omega
            go_wp2
            all_goals
              go_meet
              case rel => exact ⟨_, rfl, ⟨below_set HB.out (Nat.le_succ _)⟩, ⟨blk_far HM1.out (by show w.heap.size ≠ w.heap.size + 1; omega) _⟩, ⟨blk_put HM2.out 0 _ (by rw [e0]; rfl)⟩⟩
      case rest =>
        clear HM1 HM2 hm1 hm2 hf2 HB
        obtain ⟨w2, hW, HB, HM1, HM2⟩ := hcut
        subst hW
        obtain ⟨L, hL⟩ : ∃ L, sparse_Punch.lo a1 a2 = L := ⟨_, rfl⟩
        obtain ⟨H, hH⟩ : ∃ H, sparse_Punch.hi a1 a2 a3 = H := ⟨_, rfl⟩
        have HHL : Aside0 (H = L + min a3 (a1 - L)) := ⟨by rw [← hH, ← hL]; rfl⟩
        have hL1 : L ≤ a1 := by rw [← hL]; unfold sparse_Punch.lo; omega
        rw [hL] at HM2 v0 v1
        rw [hH] at v2 v3
        have hm1 : w2.cell? ⟨w.heap.size, 0, none⟩ = some (.int .i64 a1) := (blk_cell HM1.out 0).trans rfl
        have hm2 : w2.cell? ⟨w.heap.size + 1, 0, none⟩ = some (.int .i64 L) := (blk_cell HM2.out 0).trans rfl
        have e1 : IntKind.i64.wrap (a1 - L) = a1 - L := by rw [IntKind.wrap_i64]; omega
        go_upto_region 7 with (fail)
        go_cut [11] (fun v11 wc => ∃ W : World, W = wc ∧ v11 = .pointer (some ⟨w2.heap.size, 0, none⟩) ∧ Aside0 (Below w2.heap.size w2 W) ∧ Aside0 (W.cell? ⟨w2.heap.size, 0, none⟩ = some (.int .i64 H)))
        case first =>
          have hH0 : ∀ x, x = H → Aside0 ((w2.alloc (.cells #[.int .i64 x] 3)).cell? ⟨w2.heap.size, 0, none⟩ = some (.int .i64 H)) := fun x hx => ⟨by
            rw [hx]
            exact (blk_cell (blk_new w2 _) 0).trans rfl⟩
          rcases Int.lt_or_le a3 (a1 - L) with c1 | c1
          · have c2 : ¬ (a1 - L < a3) := by omega
            have c3 : a3 ≤ a1 - L := by omega
            have e2 : IntKind.i64.wrap (L + a3) = L + a3 := by rw [IntKind.wrap_i64]; omega
            go_wp2
            all_goals
              go_meet
              case rel => exact ⟨_, rfl, rfl, ⟨below_alloc (Below.refl _ _) _⟩, hH0 _ (by have := HHL.out; omega)⟩
          · rcases Int.lt_or_le (a1 - L) a3 with c2 | c2
            · have c3 : ¬ (a3 < a1 - L) := by omega
              have c4 : ¬ (a3 ≤ a1 - L) := by omega
              have e2 : IntKind.i64.wrap (L + (a1 - L)) = L + (a1 - L) := by rw [IntKind.wrap_i64]; omega
              go_wp2
              all_goals
                go_meet
                case rel => exact ⟨_, rfl, rfl, ⟨below_alloc (Below.refl _ _) _⟩, hH0 _ (by have := HHL.out; omega)⟩
            · obtain rfl : a3 = a1 - L := by omega
              have e2 : IntKind.i64.wrap (L + (a1 - L)) = L + (a1 - L) := by rw [IntKind.wrap_i64]; omega
              go_wp2
              all_goals
                go_meet
                case rel => exact ⟨_, rfl, rfl, ⟨below_alloc (Below.refl _ _) _⟩, hH0 _ (by have := HHL.out; omega)⟩
        case rest =>
          obtain ⟨w3, hW, rfl, HB3, HM3⟩ := hcut
          subst hW
          have HB4 := Aside0.mk (below_step HB.out HB3.out)
          have k1 : w3.cell? ⟨w.heap.size, 0, none⟩ = some (.int .i64 a1) := (HB3.out.cell (World.block_lt_of_cell? _ _ hm1)).trans hm1
          have k2 : w3.cell? ⟨w.heap.size + 1, 0, none⟩ = some (.int .i64 L) := (HB3.out.cell (World.block_lt_of_cell? _ _ hm2)).trans hm2
          have k3 := HM3.out
          clear hm1 hm2 e1 HM1 HM2
          go_wp2_with (go_at_call 31; (with_reducible refine (sparse_Truncate.zeroed 33 #[.pointer (some ⟨w.heap.size + 1, 0, none⟩), .pointer (some ⟨w.heap.size, 0, none⟩), .pointer (some ⟨w2.heap.size, 0, none⟩)] eg (sparse_Punch.goneB a1 a2 a3) L H v0 v1 v2 v3 w3 A0 c0 l0 (Kd.C_below HR0.out HB4.out) HC0.out (sparse_Truncate.ok_len HOK.out) (sparse_Truncate.ok_at HOK.out) (fun W i hb h0 h1 => by rw [show (#[Value.int .i64 i] ++ #[Value.pointer (some ⟨w.heap.size + 1, 0, none⟩), .pointer (some ⟨w.heap.size, 0, none⟩), .pointer (some ⟨w2.heap.size, 0, none⟩)] : Array Value) = #[.int .i64 i, .pointer (some ⟨w.heap.size + 1, 0, none⟩), .pointer (some ⟨w.heap.size, 0, none⟩), .pointer (some ⟨w2.heap.size, 0, none⟩)] from rfl, show sparse_Punch.goneB a1 a2 a3 i = (decide (i * 64 ≥ L) && (decide (min a1 ((i + 1) * 64) ≤ H) && decide (L < H))) by unfold sparse_Punch.goneB; rw [hL, hH]]; exact sparse_Punch.gone W _ _ _ L a1 H i h0 h1 ((hb.cell (World.block_lt_of_cell? _ _ k2)).trans k2) ((hb.cell (World.block_lt_of_cell? _ _ k1)).trans k1) ((hb.cell (World.block_lt_of_cell? _ _ k3)).trans k3))).mono ?_); rintro e w5 ⟨v5, rfl, hr5, hb5⟩; have HR5 := Aside0.mk (Kd.R_lower hr5 (below_size HB4.out)); have HB5 := Aside0.mk (below_step HB4.out hb5); clear hr5 hb5)
          go_ret2
          exact ⟨_, rfl, by rw [hL, hH]; exact HR5.out, HB5.out⟩


end Go.Proofs.YtgnffienfjigiaaDoor.PA
