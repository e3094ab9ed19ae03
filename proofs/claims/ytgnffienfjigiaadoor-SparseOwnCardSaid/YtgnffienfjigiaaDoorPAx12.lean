-- WRITTEN BY a program of this session (pp.sh)
import Derived.Test.YtgnffienfjigiaaDoorPAx0
import Derived.Test.YtgnffienfjigiaaDoorPAx6
import Derived.Test.YtgnffienfjigiaaDoorPAx7
import Derived.Test.YtgnffienfjigiaaDoorPAx8
import Derived.Test.YtgnffienfjigiaaDoorPAx9
import Derived.Test.YtgnffienfjigiaaDoorPAx10
import Derived.Test.YtgnffienfjigiaaDoorPAx11
namespace Go.Proofs.YtgnffienfjigiaaDoor.PA
open Go.RowKit Go.Proofs.YtgnffienfjigiaaDoorW.PrintWords Go.Proofs.YtgnffienfjigiaaDoorW.PrintLast Go.Proofs.YtgnffienfjigiaaDoorW.PrintMore Go.Proofs.YtgnffienfjigiaaDoor.Plain
attribute [local go_sem] max2_int min2_int max_two min_two max_three min_three max_four min_four binOp_leq_s binOp_gtr_s binOp_geq_s lit_byte   -- for this text's walks alone
set_option linter.unusedVariables false
set_option linter.unusedSimpArgs false

/-! ### coppicelaw13_SparseOwn: function 5, by hand -/
/-- A row of one's own, of n pieces, in a block from lo to hi. -/
def coppicelaw13_SparseOwn.Row (W : World) (v : Value) (n lo hi : Nat) : Prop := (∃ c, v = .slice none 0 c ∧ n = 0) ∨ ∃ (g c : Nat) (cs : Array Value), v = .slice (some ⟨g, 0, none⟩) n c ∧ W.heap[g]? = some (.cells cs 39 (0, 0)) ∧ n * 2 ≤ cs.size ∧ n ≤ c ∧ lo ≤ g ∧ g < hi
theorem coppicelaw13_SparseOwn.Row.of {W : World} {v : Value} {xs : List S39} {base : Nat} {ok : Nat → Prop} (h : Kd.R k39 39 W base ok v xs) : coppicelaw13_SparseOwn.Row W v xs.length base W.heap.size := by
  obtain ⟨_, inner, ⟨hl, hown⟩, hr⟩ := h
  rcases hown with ⟨hv, h0⟩ | ⟨g, cap, cur, hv, hbg, hg, hnc, hcm, hcs, htk⟩
  · exact .inl ⟨_, hv, h0⟩
  · exact .inr ⟨g, cap, cur, hv, hg, by rw [hcs]; exact Nat.mul_le_mul_right _ hnc, hnc, hbg, blk_lt hg⟩
theorem coppicelaw13_SparseOwn.Row.below {W W' : World} {v : Value} {n lo hi : Nat} (h : coppicelaw13_SparseOwn.Row W v n lo hi) (hb : Below W.heap.size W W') : coppicelaw13_SparseOwn.Row W' v n lo hi := by
  rcases h with h | ⟨g, c, cs, h1, h2, h3, h4, h5, h6⟩
  · exact .inl h
  · exact .inr ⟨g, c, cs, h1, blk_below h2 hb, h3, h4, h5, h6⟩
theorem coppicelaw13_SparseOwn.Row.far {W : World} {v : Value} {n lo hi : Nat} (h : coppicelaw13_SparseOwn.Row W v n lo hi) {g : Nat} (hg : g < lo ∨ hi ≤ g) (j : Nat) (u : Value) : coppicelaw13_SparseOwn.Row (W.setCell ⟨g, j, none⟩ u) v n lo hi := by
  rcases h with h | ⟨g', c, cs, h1, h2, h3, h4, h5, h6⟩
  · exact .inl h
  · exact .inr ⟨g', c, cs, h1, blk_far h2 (by show g' ≠ g; omega) u, h3, h4, h5, h6⟩
theorem coppicelaw13_SparseOwn.cut_to {P : Program} (t e : TypeId) (kh : IntKind) {i : TypeInfo} (ht : P.underlying t = some (.slice e)) (hi : P.info? e = some i) (A : Option Addr) (n c : Nat) (j : Int) (h0 : 0 ≤ j) (hc : j ≤ c) :
    ∀ W : World, (Instr.slice t (.slice A n c) none (some (.int kh j)) none).run P W = .ok (.slice A j.toNat c) W := by
  intro W
  have hel : P.elem t = e := by simp [Program.elem, ht]
  have hu : P.underlying t = some (.slice (P.elem t)) := by rw [hel]; exact ht
  have ha : (A.map fun x => x.add 0) = A := by cases A <;> simp [Addr.add]
  rw [run_slice_h W t A n c hu kh j h0 (by omega), hel]
  simp [sizeOf, typeInfo, hi, sliced, Result.andThen, ha]
def coppicelaw13_SparseOwn.behind : S39 := ⟨7, ⟨#[98, 101, 104, 105, 110, 100]⟩⟩
def coppicelaw13_SparseOwn.fits (l w t p : List S39) : Bool := decide (l.length ≤ 1000000) && (decide (w.length ≤ 1000000) && (decide (t.length ≤ 1000000) && decide (p.length ≤ 1000000)))
def coppicelaw13_SparseOwn.f (k : Nat) (l0 : List S39) (a1 b0 b1 b2 : Int) (b3 : ByteArray) : Option Bool :=
  (coppicelaw13_awake.f k).bind fun t => if t = true then ((coppiceref13_Great.f k l0).bind fun g => if g = true then some true else if (b3.size : Int) > 4096 then some true else
    (sparse_Write.f k l0 a1 b1 b3).bind fun w => (sparse_Truncate.f k l0 a1 b2).bind fun t => (sparse_Punch.f k l0 a1 b1 b2).bind fun p => (coppiceref13_Same.f k l0 l0).bind fun s =>
      if s = true ∧ coppicelaw13_SparseOwn.fits l0 w.1 t.1 p.1 = true then some true else none) else some false
theorem coppicelaw13_SparseOwn.mono : ∀ a0 a1 a2 a3 a4 a5 k, LeO (coppicelaw13_SparseOwn.f k a0 a1 a2 a3 a4 a5) (coppicelaw13_SparseOwn.f (k + 1) a0 a1 a2 a3 a4 a5) := by
  intro a0 a1 a2 a3 a4 a5 k
  unfold coppicelaw13_SparseOwn.f
  refine LeO.bind (coppicelaw13_awake.mono _) (fun t => LeO.ite ?_ (LeO.refl _))
  refine LeO.bind (coppiceref13_Great.mono _ _) (fun g => LeO.ite (LeO.refl _) (LeO.ite (LeO.refl _) ?_))
  exact LeO.bind (sparse_Write.mono _ _ _ _ _) (fun w => LeO.bind (sparse_Truncate.mono _ _ _ _) (fun t => LeO.bind (sparse_Punch.mono _ _ _ _ _) (fun p => LeO.bind (coppiceref13_Same.mono _ _ _) (fun s => LeO.refl _))))
set_option maxHeartbeats 8000000 in
set_option maxRecDepth 100000 in
theorem coppicelaw13_SparseOwn.calls (k : Nat) (A0 : Option Addr) (c0 : Nat) (l0 : List S39) (a1 b0 b1 b2 : Int) (b3 : ByteArray) (r : Bool) (w : World) (hr0 : Kd.C k39 w A0 l0.length l0) (hc0 : l0.length ≤ c0) (h : coppicelaw13_SparseOwn.f k l0 a1 b0 b1 b2 b3 = some r) :
    Calls Tryd.prog 5 #[.slice A0 l0.length c0, .int .i64 a1, .agg #[.int .i64 b0, .int .i64 b1, .int .i64 b2, .string b3]] w fun e w' => e = .returned (.bool r) ∧ Below w.heap.size w w' := by
  have HR0 := Aside0.mk hr0
  have HC0 := Aside0.mk hc0
  have hb1 := below_alloc (Below.refl w.heap.size w) (.cells #[.int .i64 b0, .int .i64 b1, .int .i64 b2, .string b3] 42)
  have HB1 := Aside0.mk hb1
  have HS1 := Aside0.mk (blk_new w (.cells #[.int .i64 b0, .int .i64 b1, .int .i64 b2, .string b3] 42))
  clear hr0 hc0 hb1
  unfold coppicelaw13_SparseOwn.f at h
  obtain ⟨ta, haw, h⟩ := Option.bind_eq_some_iff.1 h
  have HAW := Aside0.mk haw
  clear haw
  go_enter Tryd.func5, Tryd.ntmps5
  split at h
  case isFalse hne =>
    obtain rfl : ta = false := by simpa using hne
    obtain rfl := Option.some.inj h
    clear h hne
    go_wp2_with (go_at_call 9; (with_reducible refine (coppicelaw13_awake.calls k _ _ HAW.out).mono ?_); rintro e w2 ⟨rfl, hb⟩; have HB2 := Aside0.mk (below_step HB1.out hb); have HS2 := Aside0.mk (blk_below HS1.out hb); have hs2 : w2.cell? ⟨w.heap.size, 3, none⟩ = some (.string b3) := (blk_cell HS2.out 3).trans rfl; clear hb)
    go_ret
    exact ⟨rfl, HB2.out⟩
  case isTrue he =>
    subst he
    obtain ⟨g, hg, h⟩ := Option.bind_eq_some_iff.1 h
    have HG := Aside0.mk hg
    clear hg
    split at h
    case isTrue he =>
      subst he
      obtain rfl := Option.some.inj h
      clear h
      go_wp2_with (first | (go_at_call 9; (with_reducible refine (coppicelaw13_awake.calls k _ _ HAW.out).mono ?_); rintro e w2 ⟨rfl, hb⟩; have HB2 := Aside0.mk (below_step HB1.out hb); have HS2 := Aside0.mk (blk_below HS1.out hb); have hs2 : w2.cell? ⟨w.heap.size, 3, none⟩ = some (.string b3) := (blk_cell HS2.out 3).trans rfl; clear hb) | (go_at_call 10; (with_reducible refine (coppiceref13_Great.calls k A0 c0 l0 _ _ (Kd.C_below HR0.out HB2.out) HC0.out HG.out).mono ?_); rintro e w3 ⟨rfl, hb⟩; have hb0 := Aside0.mk (Drawn0.below hb); have HB3 := Aside0.mk (below_step HB2.out hb0.out); have HS3 := Aside0.mk (blk_below HS2.out hb0.out); have hs3 : w3.cell? ⟨w.heap.size, 3, none⟩ = some (.string b3) := (blk_cell HS3.out 3).trans rfl; clear hb hb0))
      go_ret
      exact ⟨rfl, HB3.out⟩
    case isFalse hne =>
      obtain rfl : g = false := by simpa using hne
      clear hne
      split at h
      case isTrue hbig =>
        obtain rfl := Option.some.inj h
        clear h
        have d1 : decide ((b3.size : Int) > 4096) = true := decide_eq_true hbig
        go_wp2_with (first | (go_at_call 9; (with_reducible refine (coppicelaw13_awake.calls k _ _ HAW.out).mono ?_); rintro e w2 ⟨rfl, hb⟩; have HB2 := Aside0.mk (below_step HB1.out hb); have HS2 := Aside0.mk (blk_below HS1.out hb); have hs2 : w2.cell? ⟨w.heap.size, 3, none⟩ = some (.string b3) := (blk_cell HS2.out 3).trans rfl; clear hb) | (go_at_call 10; (with_reducible refine (coppiceref13_Great.calls k A0 c0 l0 _ _ (Kd.C_below HR0.out HB2.out) HC0.out HG.out).mono ?_); rintro e w3 ⟨rfl, hb⟩; have hb0 := Aside0.mk (Drawn0.below hb); have HB3 := Aside0.mk (below_step HB2.out hb0.out); have HS3 := Aside0.mk (blk_below HS2.out hb0.out); have hs3 : w3.cell? ⟨w.heap.size, 3, none⟩ = some (.string b3) := (blk_cell HS3.out 3).trans rfl; clear hb hb0))
        go_ret
        exact ⟨rfl, HB3.out⟩
      case isFalse hsm =>
        have d1 : decide ((b3.size : Int) > 4096) = false := decide_eq_false hsm
        obtain ⟨⟨xw, xw2, xw3⟩, hw, h⟩ := Option.bind_eq_some_iff.1 h
        obtain ⟨⟨xt, xt2, xt3⟩, ht, h⟩ := Option.bind_eq_some_iff.1 h
        obtain ⟨⟨xp, xp2⟩, hp, h⟩ := Option.bind_eq_some_iff.1 h
        obtain ⟨s, hs, h⟩ := Option.bind_eq_some_iff.1 h
        split at h
        case isFalse => cases h
        case isTrue hq =>
        obtain rfl := Option.some.inj h
        obtain ⟨hq1, hq2⟩ := hq
        subst hq1
        clear h
        unfold coppicelaw13_SparseOwn.fits at hq2
        rw [Bool.and_eq_true, Bool.and_eq_true, Bool.and_eq_true, decide_eq_true_iff, decide_eq_true_iff, decide_eq_true_iff, decide_eq_true_iff] at hq2
        obtain ⟨n0, n1, n2, n3⟩ := hq2
        have ho : coppicelaw13_own.f l0 = some l0 := by
          unfold coppicelaw13_own.f
          rw [Option.bind_some, if_pos (by simp; omega), List.nil_append]
        have HO := Aside0.mk ho
        have HW := Aside0.mk hw
        have HT := Aside0.mk ht
        have HP := Aside0.mk hp
        have HS := Aside0.mk hs
        have N0 := Aside0.mk n0
        have N1 : Aside0 (xw.length ≤ 1000000) := ⟨n1⟩
        have N2 : Aside0 (xt.length ≤ 1000000) := ⟨n2⟩
        have N3 : Aside0 (xp.length ≤ 1000000) := ⟨n3⟩
        clear ho hw ht hp hs n1 n2 n3 hsm
        obtain ⟨i0, hi0, _, hsz0, _⟩ := info_parts info39
        have z0 : (0 : Int) ≤ (l0.length : Int) := by omega
        go_upto_region 5 with (first | (go_at_call 9; (with_reducible refine (coppicelaw13_awake.calls k _ _ HAW.out).mono ?_); rintro e w2 ⟨rfl, hb⟩; have HB2 := Aside0.mk (below_step HB1.out hb); have HS2 := Aside0.mk (blk_below HS1.out hb); have hs2 : w2.cell? ⟨w.heap.size, 3, none⟩ = some (.string b3) := (blk_cell HS2.out 3).trans rfl; clear hb) | (go_at_call 10; (with_reducible refine (coppiceref13_Great.calls k A0 c0 l0 _ _ (Kd.C_below HR0.out HB2.out) HC0.out HG.out).mono ?_); rintro e w3 ⟨rfl, hb⟩; have hb0 := Aside0.mk (Drawn0.below hb); have HB3 := Aside0.mk (below_step HB2.out hb0.out); have HS3 := Aside0.mk (blk_below HS2.out hb0.out); have hs3 : w3.cell? ⟨w.heap.size, 3, none⟩ = some (.string b3) := (blk_cell HS3.out 3).trans rfl; clear hb hb0))
        go_cut [7] (fun v7 wc => ∃ (A1 : Option Addr) (c1 : Nat) (W : World), W = wc ∧ v7 = .slice A1 l0.length c1 ∧ Aside0 (l0.length + 1 ≤ c1) ∧ Aside0 (Kd.C k39 W A1 (l0.length + 1) (l0 ++ [coppicelaw13_SparseOwn.behind])) ∧ Aside0 (W.heap[w.heap.size]? = some (.cells #[.int .i64 b0, .int .i64 b1, .int .i64 b2, .string b3] 42 (0, 0))) ∧ Aside0 (Below w.heap.size w W))
        case first =>
          go_wp2_with (first
            | (go_at_call 12; (with_reducible refine (coppicelaw13_own.calls A0 c0 l0 l0 _ (Kd.C_below HR0.out HB3.out) HC0.out HO.out).mono ?_); rintro e w4 ⟨v4, rfl, hr, hb⟩; have HX4 := Aside0.mk (Kd.R_lower hr (below_size HB3.out)); have HB4 := Aside0.mk (below_step HB3.out hb); have HS4 := Aside0.mk (blk_below HS3.out hb); clear hr hb)
            | ((with_reducible refine gate_builtin (b := .append) (xs := #[.tmp 31, .tmp 33]) rfl ?_); at_builtin; refine Kd.R_append k39 (w0 := w) w.heap.size rfl (.tmp 31) (.tmp 33) 22 39 (.agg #[(.int .i64 0), (.string ⟨#[]⟩)]) 24 rfl Tryd.underlying22 info39 rfl (by decide) (by omega) v4 l0 coppicelaw13_SparseOwn.behind [.int .i64 7, .string ⟨#[98, 101, 104, 105, 110, 100]⟩] (fun _ => True) (fun _ => False) rfl rfl ?aP (fun _ hk => hk.elim) (fun _ _ => trivial) ?aO ?aB ?aS ?aL ?_
               case aP => exact k39_mkM _ _ _ coppicelaw13_SparseOwn.behind
               case aO => exact HX4.out
               case aB => exact HB4.out
               case aS => exact below_size HB4.out
               case aL => have := N0.out; omega
               intro v5 w5 ho hb hg hat
               have HS5 := Aside0.mk (blk_grown (g := w.heap.size) (o := .cells #[.int .i64 b0, .int .i64 b1, .int .i64 b2, .string b3] 42 (0, 0)) HS4.out hg (Kd.R_ne HX4.out HS4.out (by decide)))
               obtain ⟨A1, c1, hv1⟩ := Kd.R_slice ho
               rw [List.length_append, List.length_singleton] at hv1
               subst hv1
               have hrd := Kd.R_reads' ho
               rw [List.length_append, List.length_singleton] at hrd
               have HC5 := Aside0.mk hrd.2.2
               have HR5 := Aside0.mk hrd.2.1
               have hcut5 := coppicelaw13_SparseOwn.cut_to (P := Tryd.prog) 22 39 .i64 Tryd.underlying22 hi0 A1 (l0.length + 1) c1 (l0.length : Int) z0 (by have := hrd.2.1; omega)
               rw [Int.toNat_natCast] at hcut5
               have HB5 := Aside0.mk hb
               clear ho hb hg hat hrd))
          go_meet
          case rel => exact ⟨A1, c1, _, rfl, rfl, HR5, HC5, HS5, HB5⟩
        case rest =>
          clear HB1 HB2 HB3 HS1 HS2 HS3 hs2 hs3
          obtain ⟨A1, c1, wA, hWA, rfl, HCAP, HCM, HSA, HBA0⟩ := hcut
          subst hWA
          have hc1 : Kd.C k39 wA A1 l0.length l0 := by
            have h := Kd.C_take (m := l0.length) (xs := l0 ++ [coppicelaw13_SparseOwn.behind]) (by rw [List.length_append, List.length_singleton]; exact HCM.out) (by rw [List.length_append]; omega)
            rw [List.take_left] at h
            exact h
          have HC1 := Aside0.mk hc1
          have HCAP1 : Aside0 (l0.length ≤ c1) := ⟨by have := HCAP.out; omega⟩
          have ha1 : wA.cell? ⟨w.heap.size, 1, none⟩ = some (.int .i64 b1) := (blk_cell HSA.out 1).trans rfl
          have ha3 : wA.cell? ⟨w.heap.size, 3, none⟩ = some (.string b3) := (blk_cell HSA.out 3).trans rfl
          clear hc1
          go_upto_region 9 with (first
            | (go_at_call 11; (with_reducible refine (sparse_Write.calls k A1 c1 l0 a1 b1 b3 xw xw2 xw3 _ HC1.out HCAP1.out HW.out).mono ?_); rintro e w6 ⟨vw, rfl, hr, hb⟩
               have HRW := Aside0.mk (coppicelaw13_SparseOwn.Row.of hr)
               obtain ⟨Aw, cw, ew⟩ := Kd.R_slice hr
               subst ew
               have HA6 := Aside0.mk hb
               have HS6 := Aside0.mk (blk_below HSA.out hb)
               have ha2 : w6.cell? ⟨w.heap.size, 2, none⟩ = some (.int .i64 b2) := (blk_cell HS6.out 2).trans rfl
               clear hr hb)
            | (go_at_call 16; (with_reducible refine (sparse_Truncate.calls k A1 c1 l0 a1 b2 xt xt2 xt3 _ (Kd.C_below HC1.out HA6.out) HCAP1.out HT.out).mono ?_); rintro e w7 ⟨vt, rfl, hr, hb⟩
               have HRT := Aside0.mk (coppicelaw13_SparseOwn.Row.of hr)
               obtain ⟨At, ct, et⟩ := Kd.R_slice hr
               subst et
               have HRW7 := Aside0.mk (HRW.out.below hb)
               have HA7 := Aside0.mk (below_step HA6.out hb)
               have HS7 := Aside0.mk (blk_below HS6.out hb)
               have HL7 := Aside0.mk (below_size hb)
               have ha4 : w7.cell? ⟨w.heap.size, 1, none⟩ = some (.int .i64 b1) := (blk_cell HS7.out 1).trans rfl
               have ha5 : w7.cell? ⟨w.heap.size, 2, none⟩ = some (.int .i64 b2) := (blk_cell HS7.out 2).trans rfl
               clear hr hb)
            | (go_at_call 17; (with_reducible refine (sparse_Punch.calls k A1 c1 l0 a1 b1 b2 xp xp2 _ (Kd.C_below HC1.out HA7.out) HCAP1.out HP.out).mono ?_); rintro e w8 ⟨vp, rfl, hr, hb⟩
               have HRP := Aside0.mk (coppicelaw13_SparseOwn.Row.of hr)
               obtain ⟨Ap, cp, ep⟩ := Kd.R_slice hr
               subst ep
               have HRW8 := Aside0.mk (HRW7.out.below hb)
               have HRT8 := Aside0.mk (HRT.out.below hb)
               have HA8 := Aside0.mk (below_step HA7.out hb)
               have HL8 := Aside0.mk (below_size hb)
               clear hr hb))
          have HL6 := Aside0.mk (below_size HA6.out)
          clear HW HT HP HS6 HS7 ha1 ha2 ha3 ha4 ha5 HRW HRT HRW7 HA7
          obtain ⟨s1, hs1⟩ : ∃ s1, w6.heap.size = s1 := ⟨_, rfl⟩
          obtain ⟨s2, hs2⟩ : ∃ s2, w7.heap.size = s2 := ⟨_, rfl⟩
          obtain ⟨s3, hs3⟩ : ∃ s3, w8.heap.size = s3 := ⟨_, rfl⟩
          rw [hs1] at HRW8 HL6 HRT8 HL7
          rw [hs2] at HRT8 HRP HL7 HL8
          rw [hs3] at HRP HL8
          clear hs1 hs2 hs3 HA6
          go_wp2
          go_loopg [16] (xw.length + 1) (fun kq v16 w' => ∃ (i : Nat) (wr : World), wr = w' ∧ v16 = .int .i64 (i : Int) ∧ Aside0 (i + kq = xw.length + 1) ∧ Aside0 (coppicelaw13_SparseOwn.Row w' (.slice Aw xw.length cw) xw.length wA.heap.size s1) ∧ Aside0 (coppicelaw13_SparseOwn.Row w' (.slice At xt.length ct) xt.length s1 s2) ∧ Aside0 (coppicelaw13_SparseOwn.Row w' (.slice Ap xp.length cp) xp.length s2 s3) ∧ Aside0 (Below wA.heap.size wA w'))
          case atStart => exact ⟨0, _, rfl, rfl, ⟨by omega⟩, HRW8, HRT8, HRP, HA8⟩
          case round =>
            clear HRW8 HRT8 HRP HA8
            obtain ⟨i, wr, hwr, rfl, HJ, HQ0_W, HQ0_T, HQ0_P, HB0_⟩ := hrel
            subst hwr
            by_cases c : i < xw.length
            · obtain ⟨k1, rfl⟩ : ∃ z, gk = z + 1 := ⟨gk - 1, by have := HJ.out; omega⟩
              have dI : decide ((i : Int) < (xw.length : Int)) = true := decide_eq_true (by omega)
              have dI2 : ((i : Int) < (xw.length : Int)) = True := eq_true (by omega)
              have hi9 : IntKind.i64.wrap ((i : Int) + 1) = ((i + 1 : Nat) : Int) := by rw [IntKind.wrap_i64]; have := N1.out; omega
              rcases HQ0_W.out with ⟨c2, h1, h2⟩ | ⟨g, c2, cs, h1, h2, h3, h4, h5, h6⟩
              · omega
              · obtain ⟨e1, e2⟩ : Aw = some ⟨g, 0, none⟩ ∧ cw = c2 := by
                  injection h1 with e1 _ e2
                  exact ⟨e1, e2⟩
                subst e1 e2
                have hlt : i * 2 < cs.size := by omega
                have hc0 : wr.cell? ⟨g, i * 2, none⟩ = some cs[i * 2] := (blk_cell h2 (i * 2)).trans (Array.getElem?_eq_getElem hlt)
                have hf0 := blk_frozen h2 (i * 2)
                have HH := Aside0.mk (And.intro h2 (And.intro h3 (And.intro h4 (And.intro h5 h6))))
                clear h1 h2 h3 h4 h5 h6
                go_wp2
                obtain ⟨h2, h3, h4, h5, h6⟩ := HH.out
                go_roundg k1
                case measure => omega
                case rel => exact ⟨i + 1, _, rfl, rfl, ⟨by have := HJ.out; omega⟩, ⟨.inr ⟨g, cw, _, rfl, blk_set h2 _ _, by rw [Array.size_setIfInBounds]; exact h3, h4, h5, h6⟩⟩, ⟨HQ0_T.out.far (by have := HL6.out; have := HL7.out; have := HL8.out; omega) _ _⟩, ⟨HQ0_P.out.far (by have := HL6.out; have := HL7.out; have := HL8.out; omega) _ _⟩, ⟨below_set HB0_.out (by have := HL6.out; have := HL7.out; have := HL8.out; omega)⟩⟩
            · have dI : decide ((i : Int) < (xw.length : Int)) = false := decide_eq_false (by omega)
              clear HJ
              go_wp2
              go_loopg [17] (xt.length + 1) (fun kq v17 w' => ∃ (i : Nat) (wr : World), wr = w' ∧ v17 = .int .i64 (i : Int) ∧ Aside0 (i + kq = xt.length + 1) ∧ Aside0 (coppicelaw13_SparseOwn.Row w' (.slice Aw xw.length cw) xw.length wA.heap.size s1) ∧ Aside0 (coppicelaw13_SparseOwn.Row w' (.slice At xt.length ct) xt.length s1 s2) ∧ Aside0 (coppicelaw13_SparseOwn.Row w' (.slice Ap xp.length cp) xp.length s2 s3) ∧ Aside0 (Below wA.heap.size wA w'))
              case atStart => exact ⟨0, _, rfl, rfl, ⟨by omega⟩, HQ0_W, HQ0_T, HQ0_P, HB0_⟩
              case round =>
                clear HQ0_W HQ0_T HQ0_P HB0_
                obtain ⟨i, wr, hwr, rfl, HJ, HQ1_W, HQ1_T, HQ1_P, HB1_⟩ := hrel
                subst hwr
                by_cases c : i < xt.length
                · obtain ⟨k1, rfl⟩ : ∃ z, gk = z + 1 := ⟨gk - 1, by have := HJ.out; omega⟩
                  have dI : decide ((i : Int) < (xt.length : Int)) = true := decide_eq_true (by omega)
                  have dI2 : ((i : Int) < (xt.length : Int)) = True := eq_true (by omega)
                  have hi9 : IntKind.i64.wrap ((i : Int) + 1) = ((i + 1 : Nat) : Int) := by rw [IntKind.wrap_i64]; have := N2.out; omega
                  rcases HQ1_T.out with ⟨c2, h1, h2⟩ | ⟨g, c2, cs, h1, h2, h3, h4, h5, h6⟩
                  · omega
                  · obtain ⟨e1, e2⟩ : At = some ⟨g, 0, none⟩ ∧ ct = c2 := by
                      injection h1 with e1 _ e2
                      exact ⟨e1, e2⟩
                    subst e1 e2
                    have hlt : i * 2 < cs.size := by omega
                    have hc0 : wr.cell? ⟨g, i * 2, none⟩ = some cs[i * 2] := (blk_cell h2 (i * 2)).trans (Array.getElem?_eq_getElem hlt)
                    have hf0 := blk_frozen h2 (i * 2)
                    have HH := Aside0.mk (And.intro h2 (And.intro h3 (And.intro h4 (And.intro h5 h6))))
                    clear h1 h2 h3 h4 h5 h6
                    go_wp2
                    obtain ⟨h2, h3, h4, h5, h6⟩ := HH.out
                    go_roundg k1
                    case measure => omega
                    case rel => exact ⟨i + 1, _, rfl, rfl, ⟨by have := HJ.out; omega⟩, ⟨HQ1_W.out.far (by have := HL6.out; have := HL7.out; have := HL8.out; omega) _ _⟩, ⟨.inr ⟨g, ct, _, rfl, blk_set h2 _ _, by rw [Array.size_setIfInBounds]; exact h3, h4, h5, h6⟩⟩, ⟨HQ1_P.out.far (by have := HL6.out; have := HL7.out; have := HL8.out; omega) _ _⟩, ⟨below_set HB1_.out (by have := HL6.out; have := HL7.out; have := HL8.out; omega)⟩⟩
                · have dI : decide ((i : Int) < (xt.length : Int)) = false := decide_eq_false (by omega)
                  clear HJ
                  go_wp2
                  go_loopg [18] (xp.length + 1) (fun kq v18 w' => ∃ (i : Nat) (wr : World), wr = w' ∧ v18 = .int .i64 (i : Int) ∧ Aside0 (i + kq = xp.length + 1) ∧ Aside0 (coppicelaw13_SparseOwn.Row w' (.slice Aw xw.length cw) xw.length wA.heap.size s1) ∧ Aside0 (coppicelaw13_SparseOwn.Row w' (.slice At xt.length ct) xt.length s1 s2) ∧ Aside0 (coppicelaw13_SparseOwn.Row w' (.slice Ap xp.length cp) xp.length s2 s3) ∧ Aside0 (Below wA.heap.size wA w'))
                  case atStart => exact ⟨0, _, rfl, rfl, ⟨by omega⟩, HQ1_W, HQ1_T, HQ1_P, HB1_⟩
                  case round =>
                    clear HQ1_W HQ1_T HQ1_P HB1_
                    obtain ⟨i, wr, hwr, rfl, HJ, HQ2_W, HQ2_T, HQ2_P, HB2_⟩ := hrel
                    subst hwr
                    by_cases c : i < xp.length
                    · obtain ⟨k1, rfl⟩ : ∃ z, gk = z + 1 := ⟨gk - 1, by have := HJ.out; omega⟩
                      have dI : decide ((i : Int) < (xp.length : Int)) = true := decide_eq_true (by omega)
                      have dI2 : ((i : Int) < (xp.length : Int)) = True := eq_true (by omega)
                      have hi9 : IntKind.i64.wrap ((i : Int) + 1) = ((i + 1 : Nat) : Int) := by rw [IntKind.wrap_i64]; have := N3.out; omega
                      rcases HQ2_P.out with ⟨c2, h1, h2⟩ | ⟨g, c2, cs, h1, h2, h3, h4, h5, h6⟩
                      · omega
                      · obtain ⟨e1, e2⟩ : Ap = some ⟨g, 0, none⟩ ∧ cp = c2 := by
                          injection h1 with e1 _ e2
                          exact ⟨e1, e2⟩
                        subst e1 e2
                        have hlt : i * 2 < cs.size := by omega
                        have hc0 : wr.cell? ⟨g, i * 2, none⟩ = some cs[i * 2] := (blk_cell h2 (i * 2)).trans (Array.getElem?_eq_getElem hlt)
                        have hf0 := blk_frozen h2 (i * 2)
                        have HH := Aside0.mk (And.intro h2 (And.intro h3 (And.intro h4 (And.intro h5 h6))))
                        clear h1 h2 h3 h4 h5 h6
                        go_wp2
                        obtain ⟨h2, h3, h4, h5, h6⟩ := HH.out
                        go_roundg k1
                        case measure => omega
                        case rel => exact ⟨i + 1, _, rfl, rfl, ⟨by have := HJ.out; omega⟩, ⟨HQ2_W.out.far (by have := HL6.out; have := HL7.out; have := HL8.out; omega) _ _⟩, ⟨HQ2_T.out.far (by have := HL6.out; have := HL7.out; have := HL8.out; omega) _ _⟩, ⟨.inr ⟨g, cp, _, rfl, blk_set h2 _ _, by rw [Array.size_setIfInBounds]; exact h3, h4, h5, h6⟩⟩, ⟨below_set HB2_.out (by have := HL6.out; have := HL7.out; have := HL8.out; omega)⟩⟩
                    · have dI : decide ((i : Int) < (xp.length : Int)) = false := decide_eq_false (by omega)
                      clear HJ
                      have hw9 : IntKind.i64.wrap ((l0.length : Int) + 1) = (l0.length : Int) + 1 := by rw [IntKind.wrap_i64]; have := N0.out; omega
                      have hcutN := coppicelaw13_SparseOwn.cut_to (P := Tryd.prog) 22 39 .i64 Tryd.underlying22 hi0 A1 l0.length c1 ((l0.length : Int) + 1) (by omega) (by have := HCAP.out; omega)
                      rw [show ((l0.length : Int) + 1).toNat = l0.length + 1 by omega] at hcutN
                      have hlen : (l0 ++ [coppicelaw13_SparseOwn.behind]).length = l0.length + 1 := by rw [List.length_append, List.length_singleton]
                      have hcm : Kd.C k39 wr A1 (l0 ++ [coppicelaw13_SparseOwn.behind]).length (l0 ++ [coppicelaw13_SparseOwn.behind]) := by
                        rw [hlen]
                        exact Kd.C_below HCM.out HB2_.out
                      obtain ⟨ad, ea, hx0, hx1⟩ := at_T39 hcm (l0.length : Int) (by omega) (by rw [hlen]; omega)
                      subst ea
                      have hrd : rd_T39 (l0 ++ [coppicelaw13_SparseOwn.behind]) (l0.length : Int) = coppicelaw13_SparseOwn.behind := by
                        unfold rd_T39
                        rw [Int.toNat_natCast, List.getD_eq_getElem?_getD, List.getElem?_append_right (Nat.le_refl _), Nat.sub_self]
                        rfl
                      rw [hrd, Int.toNat_natCast] at hx0 hx1
                      have hy0 : wr.cell? (ad.add (l0.length * 2)) = some (.int .i64 7) := hx0
                      have hy1 : wr.cell? ⟨(ad.add (l0.length * 2)).block, (ad.add (l0.length * 2)).off + 1, none⟩ = some (.string ⟨#[98, 101, 104, 105, 110, 100]⟩) := hx1
                      have dn : ((l0.length : Int) < (l0.length : Int) + 1) = True := eq_true (by omega)
                      have dn2 : (l0.length < l0.length + 1) = True := eq_true (by omega)
                      have hi2 : (Tryd.prog.info? 39).map (·.size) = some 2 := by kernel_rfl
                      have HI2 := Aside0.mk hi2
                      clear hx0 hx1 hrd hcm hlen hi2
                      go_upto_region 22 with (refine wpList_store_row rfl 39 (.tmp 19) (.tmp 106) rfl wr.heap.size #[.int .i64 7, .string ⟨#[98, 101, 104, 105, 110, 100]⟩] rfl rfl 39 #[.int .i64 0, .string ⟨#[]⟩] (blk_new wr _) HI2.out rfl (by simp [Value.oneCell']) ?_)
                      have HB9 := Aside0.mk (below_step HB2_.out (below_setRow (below_alloc (Below.refl wr.heap.size wr) (.cells #[.int .i64 0, .string ⟨#[]⟩] 39)) (Nat.le_refl _) #[.int .i64 7, .string ⟨#[98, 101, 104, 105, 110, 100]⟩]))
                      have HK9 := Aside0.mk (blk_setRow (blk_new wr (.cells #[.int .i64 0, .string ⟨#[]⟩] 39)) #[.int .i64 7, .string ⟨#[98, 101, 104, 105, 110, 100]⟩])
                      clear hy0 hy1 hcutN
                      generalize (wr.alloc (.cells #[.int .i64 0, .string ⟨#[]⟩] 39)).setRow wr.heap.size #[.int .i64 7, .string ⟨#[98, 101, 104, 105, 110, 100]⟩] = wz at *
                      have HBZ := Aside0.mk (below_step HBA0.out HB9.out)
                      go_wp2_with (go_at_call 18; (with_reducible refine (coppiceref13_Same.calls k (some ad) c1 l0 A0 c0 l0 true _ (Kd.C_below HC1.out HB9.out) HCAP1.out (Kd.C_below HR0.out HBZ.out) HC0.out HS.out).mono ?_); rintro e w10 ⟨rfl, hb⟩; have hb0 := Aside0.mk (Drawn0.below hb); have HBX := Aside0.mk (below_step HBZ.out hb0.out); have HKX := Aside0.mk (blk_below HK9.out hb0.out); have hk0 : w10.cell? ⟨wr.heap.size, 0, none⟩ = some (.int .i64 7) := (blk_cell HKX.out 0).trans rfl; have hk1 : w10.cell? ⟨wr.heap.size, 1, none⟩ = some (.string ⟨#[98, 101, 104, 105, 110, 100]⟩) := (blk_cell HKX.out 1).trans rfl; clear hb hb0)
                      go_ret
                      exact ⟨by first | rfl | (simp; done), HBX.out⟩

/-- The bounds of a value of struct type 39. -/
def wf39 (x : S39) : Prop := (Lit.int .i64 x.f0).wf = true ∧ x.f1.size ≤ maxLen
/-- The bounds of a value of struct type 42. -/
def wf42 (x : S42) : Prop := (Lit.int .i64 x.f0).wf = true ∧ (Lit.int .i64 x.f1).wf = true ∧ (Lit.int .i64 x.f2).wf = true ∧ x.f3.size ≤ maxLen
def coppicelaw13_SparseOwn.Pure : Prop := ∀ (x0 : List (S39)) (x1 : Int) (x2 : S42), (x0.length ≤ maxLen ∧ ∀ y0 ∈ x0, wf39 y0) → (Lit.int .i64 x1).wf = true → wf42 x2 → ∃ k, coppicelaw13_SparseOwn.f k x0 x1 x2.f0 x2.f1 x2.f2 x2.f3 = some true

end Go.Proofs.YtgnffienfjigiaaDoor.PA
