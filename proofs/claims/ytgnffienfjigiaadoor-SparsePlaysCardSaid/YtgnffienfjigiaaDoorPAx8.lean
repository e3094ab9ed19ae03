-- WRITTEN BY a program of this session (pp.sh)
import Derived.Test.YtgnffienfjigiaaDoorPAx0
import Derived.Test.YtgnffienfjigiaaDoorPAx3
import Derived.Test.YtgnffienfjigiaaDoorPAx5
namespace Go.Proofs.YtgnffienfjigiaaDoor.PA
open Go.RowKit Go.Proofs.YtgnffienfjigiaaDoorW.PrintWords Go.Proofs.YtgnffienfjigiaaDoorW.PrintLast Go.Proofs.YtgnffienfjigiaaDoorW.PrintMore Go.Proofs.YtgnffienfjigiaaDoor.Plain
attribute [local go_sem] max2_int min2_int max_two min_two max_three min_three max_four min_four binOp_leq_s binOp_gtr_s binOp_geq_s lit_byte   -- for this text's walks alone
set_option linter.unusedVariables false
set_option linter.unusedSimpArgs false

/-! ### sparse_Read: function 13, by hand -/
/-- A text laid into a row of bytes from o on. -/
def sparse_Read.lay (b : ByteArray) (o : Nat) (d : ByteArray) : ByteArray := ⟨(splice b.data.toList o (d.data.toList.take (Nat.min d.size (b.size - o)))).toArray⟩
theorem sparse_Read.lay_cells (b : ByteArray) (o : Nat) (d : ByteArray) : splice (nums .u8 (bytesOf b)) o ((nums .u8 (bytesOf d)).take (Nat.min d.size (b.size - o))) = nums .u8 (bytesOf (sparse_Read.lay b o d)) := by
  unfold sparse_Read.lay nums bytesOf splice
  simp [List.map_take, List.map_drop, List.map_append]
theorem sparse_Read.lay_size (b : ByteArray) (o : Nat) (d : ByteArray) (h : o ≤ b.size) : (sparse_Read.lay b o d).size = b.size := by
  have h0 : b.data.toList.length = b.size := by rw [Array.length_toList]; rfl
  have h1 : d.data.toList.length = d.size := by rw [Array.length_toList]; rfl
  have h2 : (d.data.toList.take (Nat.min d.size (b.size - o))).length = Nat.min d.size (b.size - o) := by rw [List.length_take, h1]; exact Nat.min_eq_left (Nat.min_le_left _ _)
  have h3 : Nat.min d.size (b.size - o) ≤ b.size - o := Nat.min_le_right _ _
  show (splice _ _ _).toArray.size = b.size
  rw [List.size_toArray, length_splice _ _ _ (by rw [h2, h0]; omega), h0]
def sparse_Read.l0 (l : List S39) (off : Int) : Nat → Int → ByteArray → Option ByteArray
  | 0, _, _ => none
  | m + 1, i, out => if i < (l.length : Int) ∧ 0 < out.size then
      if 0 ≤ i ∧ 0 ≤ (rd_T39 l i).f0 ∧ (rd_T39 l i).f0 ≤ 72057594037927936 then
        if (rd_T39 l i).f0 * 64 - off ≥ (out.size : Int) then some out
        else if (rd_T39 l i).f0 * 64 - off < 0 then
          if off - (rd_T39 l i).f0 * 64 ≤ ((rd_T39 l i).f1.size : Int) then
            sparse_Read.l0 l off m (i + 1) (sparse_Read.lay out 0 ((rd_T39 l i).f1.extract (off - (rd_T39 l i).f0 * 64).toNat (rd_T39 l i).f1.size))
          else none
        else sparse_Read.l0 l off m (i + 1) (sparse_Read.lay out ((rd_T39 l i).f0 * 64 - off).toNat (rd_T39 l i).f1)
      else none
    else some out
def sparse_Read.zeros (n : Nat) : ByteArray := ⟨(List.replicate n (0 : UInt8)).toArray⟩
def sparse_Read.f (k : Nat) (l0 : List S39) (a1 a2 a3 : Int) : Option (ByteArray × Int) :=
  (sparse_Check.f k l0 a1).bind fun e => if e ≠ 0 then some (⟨#[]⟩, e) else if a2 < 0 ∨ a3 < 0 ∨ a3 > 4096 then some (⟨#[]⟩, 1) else
    if 0 ≤ a1 ∧ a1 ≤ 4611686018427387904 ∧ a2 ≤ 9223372036854775807 then (sparse_find.f k l0 (Int.tdiv a2 64)).bind fun t => (sparse_Read.l0 l0 a2 k t.1 (sparse_Read.zeros (max (min a3 (a1 - a2)) 0).toNat)).bind fun o => some (o, 0) else none
theorem sparse_Read.l0_mono (l : List S39) (off : Int) : ∀ m i out, LeO (sparse_Read.l0 l off m i out) (sparse_Read.l0 l off (m + 1) i out)
  | 0 => fun _ _ r h => by simp [sparse_Read.l0] at h
  | m + 1 => fun i out => by
    rw [sparse_Read.l0, sparse_Read.l0]
    refine LeO.ite (LeO.ite (LeO.ite (LeO.refl _) (LeO.ite (LeO.ite (sparse_Read.l0_mono l off m _ _) (LeO.refl _)) (sparse_Read.l0_mono l off m _ _))) (LeO.refl _)) (LeO.refl _)
theorem sparse_Read.mono : ∀ a0 a1 a2 a3 k, LeO (sparse_Read.f k a0 a1 a2 a3) (sparse_Read.f (k + 1) a0 a1 a2 a3) := by
  intro a0 a1 a2 a3 k
  unfold sparse_Read.f
  refine LeO.bind (sparse_Check.mono _ _ _) (fun e => ?_)
  refine LeO.ite (LeO.refl _) (LeO.ite (LeO.refl _) (LeO.ite ?_ (LeO.refl _)))
  refine LeO.bind (sparse_find.mono _ _ _) (fun t => LeO.bind (sparse_Read.l0_mono _ _ _ _ _) (fun _ => LeO.refl _))
set_option maxHeartbeats 8000000 in
set_option maxRecDepth 100000 in
theorem sparse_Read.calls (k : Nat) (A0 : Option Addr) (c0 : Nat) (l0 : List S39) (a1 a2 a3 : Int) (r1 : ByteArray) (r2 : Int) (w : World) (hr0 : Kd.C k39 w A0 l0.length l0) (hc0 : l0.length ≤ c0) (h : sparse_Read.f k l0 a1 a2 a3 = some (r1, r2)) :
    Calls Tryd.prog 13 #[.slice A0 l0.length c0, .int .i64 a1, .int .i64 a2, .int .i64 a3] w fun e w' => e = .returned (.tuple #[.string r1, .int .i64 r2]) ∧ Below w.heap.size w w' := by
  unfold sparse_Read.f at h
  obtain ⟨ec, hec, h⟩ := Option.bind_eq_some_iff.1 h
  have HEC := Aside0.mk hec
  have HR0 := Aside0.mk hr0
  have HC0 := Aside0.mk hc0
  have HU := Aside0.mk (Below.refl w.heap.size w)
  clear hec hr0 hc0
  split at h
  case isTrue hne =>
    obtain ⟨rfl, rfl⟩ : r1 = ⟨#[]⟩ ∧ r2 = ec := by simpa [eq_comm] using h
    clear h
    have hn : ¬ (r2 = 0) := hne
    go_enter Tryd.func13, Tryd.ntmps13
    go_wp2_with (go_at_call 15; (with_reducible refine (sparse_Check.calls k A0 c0 l0 a1 _ _ HR0.out HC0.out HEC.out).mono ?_); rintro e w1 ⟨rfl, hb⟩; have HB := Aside0.mk hb; clear hb)
    go_ret2
    exact ⟨rfl, HB.out⟩
  case isFalse he0 =>
    obtain rfl : ec = 0 := by
      by_cases h0 : ec = 0
      · exact h0
      · exact absurd h0 he0
    clear he0
    split at h
    case isTrue hne =>
      obtain ⟨rfl, rfl⟩ : r1 = ⟨#[]⟩ ∧ r2 = 1 := by simpa [eq_comm] using h
      clear h
      by_cases h1 : a2 < 0
      · have d1 : decide (a2 < 0) = true := decide_eq_true h1
        go_enter Tryd.func13, Tryd.ntmps13
        go_wp2_with (go_at_call 15; (with_reducible refine (sparse_Check.calls k A0 c0 l0 a1 _ _ HR0.out HC0.out HEC.out).mono ?_); rintro e w1 ⟨rfl, hb⟩; have HB := Aside0.mk hb; clear hb)
        go_ret2
        exact ⟨rfl, HB.out⟩
      · have d1 : decide (a2 < 0) = false := decide_eq_false h1
        by_cases h2 : a3 < 0
        · have d2 : decide (a3 < 0) = true := decide_eq_true h2
          go_enter Tryd.func13, Tryd.ntmps13
          go_wp2_with (go_at_call 15; (with_reducible refine (sparse_Check.calls k A0 c0 l0 a1 _ _ HR0.out HC0.out HEC.out).mono ?_); rintro e w1 ⟨rfl, hb⟩; have HB := Aside0.mk hb; clear hb)
          go_ret2
          exact ⟨rfl, HB.out⟩
        · have d2 : decide (a3 < 0) = false := decide_eq_false h2
          have d3 : decide (a3 > 4096) = true := decide_eq_true (by omega)
          go_enter Tryd.func13, Tryd.ntmps13
          go_wp2_with (go_at_call 15; (with_reducible refine (sparse_Check.calls k A0 c0 l0 a1 _ _ HR0.out HC0.out HEC.out).mono ?_); rintro e w1 ⟨rfl, hb⟩; have HB := Aside0.mk hb; clear hb)
          go_ret2
          exact ⟨rfl, HB.out⟩
    case isFalse hok =>
      have p0 : 0 ≤ a2 := by omega
      have p1 : 0 ≤ a3 := by omega
      have p2 : a3 ≤ 4096 := by omega
      have d1 : decide (a2 < 0) = false := decide_eq_false (by omega)
      have d2 : decide (a3 < 0) = false := decide_eq_false (by omega)
      have d3 : decide (a3 > 4096) = false := decide_eq_false (by omega)
      clear hok
      split at h
      case isFalse => cases h
      case isTrue hsz =>
      obtain ⟨⟨i0, is0⟩, hf, h⟩ := Option.bind_eq_some_iff.1 h
      obtain ⟨o, ho, h⟩ := Option.bind_eq_some_iff.1 h
      have HF := Aside0.mk hf
      have HLP := Aside0.mk ho
      obtain ⟨rfl, rfl⟩ : r1 = o ∧ r2 = 0 := by simpa [eq_comm] using h
      clear hf ho h
      obtain ⟨N, hN⟩ : ∃ N : Nat, (max (min a3 (a1 - a2)) 0).toNat = N := ⟨_, rfl⟩
      rw [hN] at HLP
      have hN2 : N ≤ 4096 := by omega
      have e1 : wrap64 (a1 - a2) = a1 - a2 := by
        have h := IntKind.wrap_i64 (a1 - a2)
        unfold wrap64
        omega
      have hmk := print_make (P := Tryd.prog) 66 5 .u8 1 Tryd.underlying66 (by kernel_rfl) (by decide) N (by omega)
      have hz : madeCells #[.int .u8 0] N = (nums .u8 (bytesOf (sparse_Read.zeros N))).toArray := by
        apply Array.ext
        · simp [madeCells, nums, bytesOf, sparse_Read.zeros]
        · intro j h1 h2
          simp [madeCells, nums, bytesOf, sparse_Read.zeros, Nat.mod_one]
      rw [hz] at hmk
      go_enter Tryd.func13, Tryd.ntmps13
      go_upto_region 6 with (go_at_call 15; (with_reducible refine (sparse_Check.calls k A0 c0 l0 a1 _ _ HR0.out HC0.out HEC.out).mono ?_); rintro e w1 ⟨rfl, hb⟩; have HB := Aside0.mk hb; clear hb)
      go_cut [11] (fun v11 wc => ∃ g : Nat, v11 = .slice (some ⟨g, 0, none⟩) N N ∧ Aside0 (w.heap.size ≤ g) ∧ Aside0 (wc.heap[g]? = some (.cells (nums .u8 (bytesOf (sparse_Read.zeros N))).toArray 5 (0, 0))) ∧ Aside0 (Below w.heap.size w wc))
      case first =>
        have HN0 := Aside0.mk hN
        clear HLP HF hN
        have hend : Aside0 (∃ g : Nat, Value.slice (some ⟨w1.heap.size, 0, none⟩) N N = .slice (some ⟨g, 0, none⟩) N N ∧ Aside0 (w.heap.size ≤ g) ∧ Aside0 ((w1.alloc (.cells (nums .u8 (bytesOf (sparse_Read.zeros N))).toArray 5)).heap[g]? = some (.cells (nums .u8 (bytesOf (sparse_Read.zeros N))).toArray 5 (0, 0))) ∧ Aside0 (Below w.heap.size w (w1.alloc (.cells (nums .u8 (bytesOf (sparse_Read.zeros N))).toArray 5)))) := ⟨⟨_, rfl, ⟨below_size HB.out⟩, ⟨blk_new w1 _⟩, ⟨below_alloc HB.out _⟩⟩⟩
        by_cases c2 : a1 - a2 < 0
        · obtain rfl : N = 0 := by have := HN0.out; omega
          have c3 : decide (a3 ≤ a1 - a2) = false := decide_eq_false (by omega)
          have c4 : ¬ (a3 ≤ a1 - a2) := by omega
          clear e1
          have e1 : IntKind.i64.wrap (a1 - a2) = a1 - a2 := by
            have h := IntKind.wrap_i64 (a1 - a2)
            omega
          have c5 : a1 - a2 ≤ 0 := by omega
          have c6 : ¬ (0 < a1 - a2) := by omega
          have hmk0 : ∀ W : World, (Instr.makeSlice 66 (.int .i64 0) (.int .i64 0)).run Tryd.prog W = .ok (.slice (some ⟨W.heap.size, 0, none⟩) 0 0) (W.alloc (.cells (nums .u8 (bytesOf (sparse_Read.zeros 0))).toArray 5)) := fun W => hmk W
          clear hmk
          go_wp2
          all_goals
            go_meet
            case rel => exact hend.out
        · have e2 : wrap64 (a1 - a2) = a1 - a2 := e1
          clear e1
          by_cases c1 : a3 ≤ a1 - a2
          · obtain rfl : a3 = (N : Int) := by have := HN0.out; omega
            go_wp2
            all_goals
              go_meet
              case rel => exact hend.out
          · have e3 : wrap64 (a1 - a2) = (N : Int) := by have := HN0.out; omega
            clear e2
            have e4 : a1 - a2 = (N : Int) := by have := HN0.out; omega
            have c5 : ¬ (a3 ≤ (N : Int)) := by have := HN0.out; omega
            have c6 : (N : Int) ≤ a3 := by omega
            have c7 : (N : Int) < a3 := by omega
            go_wp2
            all_goals
              go_meet
              case rel => exact hend.out
      case rest =>
        clear hmk hz e1
        obtain ⟨g, rfl, HG, HBK, HB2⟩ := hcut
        have et : Int.tdiv a2 64 = a2 / 64 := Int.tdiv_eq_ediv_of_nonneg p0
        have e3 : IntKind.i64.wrap (Int.tdiv a2 64) = Int.tdiv a2 64 := by rw [IntKind.wrap_i64, et]; omega
        clear et
        go_wp2_with (go_at_call 26; (with_reducible refine (sparse_find.calls k A0 c0 l0 _ i0 is0 _ (Kd.C_below HR0.out HB2.out) HC0.out HF.out).mono ?_); rintro e w3 ⟨rfl, hb⟩; have HB3 := Aside0.mk (below_step HB2.out hb); have HBK3 := Aside0.mk (blk_below HBK.out hb); clear hb)
        go_loopg [12] k (fun kq v12 w' => ∃ (i : Int) (out : ByteArray) (wr : World), wr = w' ∧ v12 = .int .i64 i ∧ Aside0 (sparse_Read.l0 l0 a2 kq i out = some r1) ∧ Aside0 (out.size = N) ∧ Aside0 (w'.heap[g]? = some (.cells (nums .u8 (bytesOf out)).toArray 5 (0, 0))) ∧ Aside0 (Below w.heap.size w w'))
        case atStart => exact ⟨i0, sparse_Read.zeros N, _, rfl, rfl, HLP, ⟨by show (List.replicate N (0 : UInt8)).toArray.size = N; simp⟩, HBK3, HB3⟩
        case round =>
          clear HLP HB2 HB3 HBK HBK3
          obtain ⟨i, out, wr, hwr, rfl, HA, HSZ, HK, HBW⟩ := hrel
          subst hwr
          cases gk with
          | zero => exact absurd HA.out (by simp [sparse_Read.l0])
          | succ k1 =>
            have H := HA.out
            clear HA
            simp only [sparse_Read.l0] at H
            have hcv := run_convert_bytes_arg (P := Tryd.prog) wr 66 5 Tryd.underlying66 Tryd.underlying5 g 0 N N (bytesOf out) (by rw [bytesOf_length, HSZ.out]) (fun j hj => by
              rw [Nat.zero_add, cell_of_row wr g j _ _ _ HK.out]
              have hj' : j < (bytesOf out).length := by rw [bytesOf_length, HSZ.out]; exact hj
              simp [nums, List.getElem?_eq_getElem hj', List.getD]) 9 Tryd.underlying9
            rw [strOf_bytesOf] at hcv
            by_cases cA : i < (l0.length : Int)
            · have dA : decide (i < (l0.length : Int)) = true := decide_eq_true cA
              by_cases cB : 0 < N
              · rw [if_pos ⟨cA, by rw [HSZ.out]; exact cB⟩] at H
                split at H
                case isFalse => cases H
                case isTrue hq =>
                obtain ⟨q0, q1, q2⟩ := hq
                obtain ⟨ad, e0, hx0, hx1⟩ := at_T39 HR0.out i q0 cA
                cases e0
                replace hx0 := (HBW.out.cell (World.block_lt_of_cell? _ _ hx0)).trans hx0
                replace hx1 := (HBW.out.cell (World.block_lt_of_cell? _ _ hx1)).trans hx1
                have w1 : IntKind.i64.wrap ((rd_T39 l0 i).f0 * 64) = (rd_T39 l0 i).f0 * 64 := by rw [IntKind.wrap_i64]; omega
                have w2 : IntKind.i64.wrap ((rd_T39 l0 i).f0 * 64 - a2) = (rd_T39 l0 i).f0 * 64 - a2 := by rw [IntKind.wrap_i64]; omega
                have dB : decide ((N : Int) > 0) = true := decide_eq_true (by omega)
                rw [HSZ.out] at H
                by_cases c1 : (rd_T39 l0 i).f0 * 64 - a2 ≥ (N : Int)
                · rw [if_pos c1] at H
                  obtain rfl := Option.some.inj H
                  have d1 : decide ((rd_T39 l0 i).f0 * 64 - a2 ≥ (N : Int)) = true := decide_eq_true c1
                  go_wp2
                  go_ret2
                  exact ⟨rfl, HBW.out⟩
                · rw [if_neg c1] at H
                  have d1 : decide ((rd_T39 l0 i).f0 * 64 - a2 ≥ (N : Int)) = false := decide_eq_false c1
                  clear hcv
                  have hc1 : (Tryd.prog.info? 5).map (·.size) = some 1 := by kernel_rfl
                  by_cases c2 : (rd_T39 l0 i).f0 * 64 - a2 < 0
                  · rw [if_pos c2] at H
                    have d2 : decide ((rd_T39 l0 i).f0 * 64 - a2 < 0) = true := decide_eq_true c2
                    split at H
                    case isFalse => cases H
                    case isTrue q3 =>
                    have w3 : IntKind.i64.wrap (-((rd_T39 l0 i).f0 * 64 - a2)) = a2 - (rd_T39 l0 i).f0 * 64 := by rw [IntKind.wrap_i64]; omega
                    have q4 : 0 ≤ a2 - (rd_T39 l0 i).f0 * 64 := by omega
                    have hcp := run_copy_row_str wr 66 9 3 5 g (0) (N - (0)) (N - (0)) ((rd_T39 l0 i).f1.extract (a2 - (rd_T39 l0 i).f0 * 64).toNat (rd_T39 l0 i).f1.size) (nums .u8 (bytesOf out)) 5 Tryd.underlying66 hc1 HK.out (by rw [nums, List.length_map, bytesOf_length, HSZ.out]; have hmm : Nat.min ((rd_T39 l0 i).f1.extract (a2 - (rd_T39 l0 i).f0 * 64).toNat (rd_T39 l0 i).f1.size).size (N - (0)) ≤ N - (0) := Nat.min_le_right _ _; omega)
                    have hl := sparse_Read.lay_cells out (0) ((rd_T39 l0 i).f1.extract (a2 - (rd_T39 l0 i).f0 * 64).toNat (rd_T39 l0 i).f1.size)
                    rw [HSZ.out] at hl
                    rw [hl] at hcp
                    have hsz2 := (sparse_Read.lay_size out (0) ((rd_T39 l0 i).f1.extract (a2 - (rd_T39 l0 i).f0 * 64).toNat (rd_T39 l0 i).f1.size) (by rw [HSZ.out]; omega)).trans HSZ.out
                    clear hl
                    have e9 : IntKind.i64.wrap (i + 1) = i + 1 := by rw [IntKind.wrap_i64]; have := Kd.C_max HR0.out; omega
                    have HN1 := Aside0.mk H
                    have HS2 := Aside0.mk hsz2
                    clear H hsz2
                    simp only [Nat.sub_zero] at hcp
                    go_wp2
                    go_roundg k1
                    case measure => omega
                    case rel => exact ⟨_, _, _, rfl, rfl, HN1, HS2, ⟨blk_setRow HK.out _⟩, ⟨below_setRow HBW.out HG.out _⟩⟩
                  · rw [if_neg c2] at H
                    have d2 : decide ((rd_T39 l0 i).f0 * 64 - a2 < 0) = false := decide_eq_false c2
                    have u1 : 0 ≤ (rd_T39 l0 i).f0 * 64 - a2 := by omega
                    have u2 : (rd_T39 l0 i).f0 * 64 - a2 ≤ (N : Int) := by omega
                    have u3 : ¬ (N = ((rd_T39 l0 i).f0 * 64 - a2).toNat) := by omega
                    have u4 : a2 ≤ (rd_T39 l0 i).f0 * 64 := by omega
                    have hcp := run_copy_row_str wr.drew 66 9 3 5 g (((rd_T39 l0 i).f0 * 64 - a2).toNat) (N - (((rd_T39 l0 i).f0 * 64 - a2).toNat)) (N - (((rd_T39 l0 i).f0 * 64 - a2).toNat)) ((rd_T39 l0 i).f1) (nums .u8 (bytesOf out)) 5 Tryd.underlying66 hc1 HK.out (by rw [nums, List.length_map, bytesOf_length, HSZ.out]; have hmm : Nat.min ((rd_T39 l0 i).f1).size (N - (((rd_T39 l0 i).f0 * 64 - a2).toNat)) ≤ N - (((rd_T39 l0 i).f0 * 64 - a2).toNat) := Nat.min_le_right _ _; omega)
                    have hl := sparse_Read.lay_cells out (((rd_T39 l0 i).f0 * 64 - a2).toNat) ((rd_T39 l0 i).f1)
                    rw [HSZ.out] at hl
                    rw [hl] at hcp
                    have hsz2 := (sparse_Read.lay_size out (((rd_T39 l0 i).f0 * 64 - a2).toNat) ((rd_T39 l0 i).f1) (by rw [HSZ.out]; omega)).trans HSZ.out
                    clear hl
                    have e9 : IntKind.i64.wrap (i + 1) = i + 1 := by rw [IntKind.wrap_i64]; have := Kd.C_max HR0.out; omega
                    have HN1 := Aside0.mk H
                    have HS2 := Aside0.mk hsz2
                    clear H hsz2
                    go_wp2
                    go_region
                    go_wp2
                    go_roundg k1
                    case measure => omega
                    case rel => exact ⟨_, _, _, rfl, rfl, HN1, HS2, ⟨blk_setRow (w := wr.drew) HK.out _⟩, ⟨below_setRow (below_drew HBW.out) HG.out _⟩⟩
              · rw [if_neg (fun h => cB (by have := h.2; rw [HSZ.out] at this; exact this))] at H
                obtain rfl := Option.some.inj H
                obtain rfl : N = 0 := by omega
                go_wp2
                go_ret2
                exact ⟨rfl, HBW.out⟩
            · have dA : decide (i < (l0.length : Int)) = false := decide_eq_false cA
              rw [if_neg (fun h => cA h.1)] at H
              obtain rfl := Option.some.inj H
              go_wp2
              go_ret2
              exact ⟨rfl, HBW.out⟩


end Go.Proofs.YtgnffienfjigiaaDoor.PA
