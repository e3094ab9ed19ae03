-- WRITTEN BY a program of this session (pp.sh)
import Derived.Test.YtcocddpknkklhaaPAx0
import Derived.Test.YtcocddpknkklhaaPAx4
import Derived.Test.YtcocddpknkklhaaPAx5
import Derived.Test.YtcocddpknkklhaaPAx18
namespace Go.Proofs.Ytcocddpknkklhaa.PA
open Go.RowKit Go.Proofs.YtcocddpknkklhaaW.PrintWords Go.Proofs.YtcocddpknkklhaaW.PrintLast Go.Proofs.YtcocddpknkklhaaW.PrintMore Go.Proofs.Ytcocddpknkklhaa.Plain
attribute [local go_sem] max2_int min2_int max_two min_two max_three min_three max_four min_four binOp_leq_s binOp_gtr_s binOp_geq_s lit_byte   -- for this text's walks alone
set_option linter.unusedVariables false
set_option linter.unusedSimpArgs false

/-! ### delta_Apart: function 23, by hand -/
-- 23
/-- A key's own text in the map. -/
def delta_Apart.eqk (x : S61) : ByteArray := (⟨#[61]⟩ : ByteArray) ++ x.f0
/-- What the changes touch, one by one. -/
def delta_Apart.tl (k : Nat) : List S61 → Option (List ByteArray)
  | [] => some []
  | x :: r => (delta_touches.f k x.f0).bind fun t => (delta_Apart.tl k r).bind fun s => some (t :: s)
def delta_Apart.met : List S61 → List ByteArray → ByteArray → Bool
  | x :: r, t :: s, z => (decide (z = t) || decide (z = delta_Apart.eqk x)) || delta_Apart.met r s z
  | _, _, _ => false
def delta_Apart.hit (m : ByteArray → Bool) : List S61 → List ByteArray → Bool
  | x :: r, t :: s => (m (delta_Apart.eqk x) || m t) || delta_Apart.hit m r s
  | _, _ => false
def delta_Apart.ok : List S61 → List ByteArray → Bool
  | x :: r, t :: s => (decide (x.f0.size ≤ 1000000) && decide (t.size ≤ 1000000)) && delta_Apart.ok r s
  | _, _ => true
def delta_Apart.mm (l0 : List S61) (t0 : List ByteArray) (z : ByteArray) : Bool := !decide (z = (⟨#[]⟩ : ByteArray)) && delta_Apart.met l0 t0 z
/-- delta.Apart. -/
def delta_Apart.f (k : Nat) (l0 l1 : List S61) : Option (Bool × Int) :=
  if l0.length ≤ 1000000000 ∧ l1.length ≤ 1000000000 then
    if (delta_Check.all l0 && delta_Check.all l1) = true then
      (delta_Apart.tl k l0).bind fun t0 => (delta_Apart.tl k l1).bind fun t1 => if (delta_Apart.ok l0 t0 && delta_Apart.ok l1 t1) = true then some (!delta_Apart.hit (delta_Apart.mm l0 t0) l1 t1, 0) else none
    else some (false, 21)
  else none
theorem delta_Apart.tl_mono (k : Nat) : ∀ l : List S61, LeO (delta_Apart.tl k l) (delta_Apart.tl (k + 1) l)
  | [] => LeO.refl _
  | x :: r => LeO.bind (delta_touches.mono _ _) (fun _ => LeO.bind (delta_Apart.tl_mono k r) (fun _ => LeO.refl _))
theorem delta_Apart.mono : ∀ a0 a1 k, LeO (delta_Apart.f k a0 a1) (delta_Apart.f (k + 1) a0 a1) := by
  intro a0 a1 k
  unfold delta_Apart.f
  exact LeO.ite (LeO.ite (LeO.bind (delta_Apart.tl_mono _ _) (fun _ => LeO.bind (delta_Apart.tl_mono _ _) (fun _ => LeO.refl _))) (LeO.refl _)) (LeO.refl _)
theorem delta_Apart.tl_cons {k : Nat} {x : S61} {r : List S61} {ts : List ByteArray} (h : delta_Apart.tl k (x :: r) = some ts) : ∃ t s, ts = t :: s ∧ delta_touches.f k x.f0 = some t ∧ delta_Apart.tl k r = some s := by
  unfold delta_Apart.tl at h
  obtain ⟨t, h1, h⟩ := Option.bind_eq_some_iff.1 h
  obtain ⟨s, h2, h⟩ := Option.bind_eq_some_iff.1 h
  exact ⟨t, s, (Option.some.inj h).symm, h1, h2⟩
theorem delta_Apart.eqk_size (x : S61) (h : x.f0.size ≤ 1000000) : (delta_Apart.eqk x).size ≤ maxLen := by
  unfold delta_Apart.eqk
  rw [ByteArray.size_append]
  show 1 + x.f0.size ≤ 9223372036854775807
  omega
theorem delta_Apart.zeroE (w : World) : (zeroValue 3).run Try.prog w = .ok (.int .i64 0) w := by kernel_rfl
open Go.Maps Go.WideMaps in
set_option maxHeartbeats 16000000 in
set_option maxRecDepth 100000 in
theorem delta_Apart.calls (k : Nat) (A0 : Option Addr) (c0 : Nat) (l0 : List S61) (A1 : Option Addr) (c1 : Nat) (l1 : List S61) (r1 : Bool) (r2 : Int) (w : World) (hr0 : Kd.C k61 w A0 l0.length l0) (hc0 : l0.length ≤ c0) (hr1 : Kd.C k61 w A1 l1.length l1) (hc1 : l1.length ≤ c1) (h : delta_Apart.f k l0 l1 = some (r1, r2)) :
    Calls Try.prog 23 #[.slice A0 l0.length c0, .slice A1 l1.length c1] w fun e w' => e = .returned (.tuple #[.bool r1, .int .i64 r2]) ∧ Below w.heap.size w w' := by
  unfold delta_Apart.f at h
  by_cases hl : l0.length ≤ 1000000000 ∧ l1.length ≤ 1000000000
  rotate_left
  · rw [if_neg hl] at h; cases h
  rw [if_pos hl] at h
  obtain ⟨q0, hq0⟩ : ∃ q : Bool, delta_Check.all l0 = q := ⟨_, rfl⟩
  obtain ⟨q1, hq1⟩ : ∃ q : Bool, delta_Check.all l1 = q := ⟨_, rfl⟩
  have HT0 := Aside0.mk (delta_Check.all_calls A0 c0 l0 w hr0 hc0 hl.1 q0 hq0)
  have HT1 := Aside0.mk (fun W (hb : Below w.heap.size w W) => delta_Check.all_calls A1 c1 l1 W (Kd.C_below hr1 hb) hc1 hl.2 q1 hq1)
  rw [hq0, hq1] at h
  have HR0 := Aside0.mk hr0
  have HR1 := Aside0.mk hr1
  have HL0 := Aside0.mk hl.1
  have HL1 := Aside0.mk hl.2
  clear hr0 hc0 hr1 hc1 hl hq0 hq1
  cases q0 with
  | false =>
    obtain ⟨rfl, rfl⟩ := Prod.mk.inj (Option.some.inj h)
    clear h
    go_enter Try.func23, Try.ntmps23
    go_wp2_with (go_at_call 19; (with_reducible refine HT0.out.mono ?_); rintro e w1 ⟨rfl, hb⟩; have HB1 := Aside0.mk hb; clear hb)
    go_ret2
    exact ⟨rfl, HB1.out⟩
  | true =>
  cases q1 with
  | false =>
    obtain ⟨rfl, rfl⟩ := Prod.mk.inj (Option.some.inj h)
    clear h
    go_enter Try.func23, Try.ntmps23
    go_wp2_with (first | (go_at_call 19; (with_reducible refine HT0.out.mono ?_); rintro e w1 ⟨rfl, hb⟩; have HB1 := Aside0.mk hb; clear hb) | (go_at_call 19; (with_reducible refine (HT1.out _ HB1.out).mono ?_); rintro e w2 ⟨rfl, hb⟩; have HB2 := Aside0.mk (below_step HB1.out hb); clear hb))
    go_ret2
    exact ⟨rfl, HB2.out⟩
  | true =>
  rw [if_pos (by decide)] at h
  obtain ⟨t0, ht0, h⟩ := Option.bind_eq_some_iff.1 h
  obtain ⟨t1, ht1, h⟩ := Option.bind_eq_some_iff.1 h
  by_cases hok : (delta_Apart.ok l0 t0 && delta_Apart.ok l1 t1) = true
  rotate_left
  · rw [if_neg hok] at h; cases h
  rw [if_pos hok] at h
  rw [Bool.and_eq_true] at hok
  obtain ⟨hr1', rfl⟩ := Prod.mk.inj (Option.some.inj h)
  have HRES := Aside0.mk hr1'
  have HOK0 := Aside0.mk hok.1
  have HOK1 := Aside0.mk hok.2
  have HTL0 := Aside0.mk ht0
  have HTL1 := Aside0.mk ht1
  have UK := Try.underlying9
  have UE := Try.underlying3
  have UT := Try.underlying80
  have hmm := @run_makeMap Try.prog
  clear h hr1' hok ht0 ht1
  go_enter Try.func23, Try.ntmps23
  go_wp2_with (first | (go_at_call 19; (with_reducible refine HT0.out.mono ?_); rintro e w1 ⟨rfl, hb⟩; have HB1 := Aside0.mk hb; clear hb) | (go_at_call 19; (with_reducible refine (HT1.out _ HB1.out).mono ?_); rintro e w2 ⟨rfl, hb⟩; have HB2 := Aside0.mk (below_step HB1.out hb); clear hb))
  have HMS := Aside0.mk (MS.start Try.prog 9 3 HB2.out)
  have HGB := Aside0.mk HB2.out.size
  clear hmm HT0 HT1
  generalize hBN : w2.heap.size = B at *
  clear hBN
  generalize w2.alloc (.map #[] 0) = wm at *
  clear HB1 HB2
  go_loopg [26] (l0.length + 1) (fun kq v26 w' => ∃ (i : Nat) (ts : List ByteArray) (p : ByteArray → Bool), v26 = .int .i64 (i : Int) ∧ Aside0 (i ≤ l0.length ∧ l0.length < i + kq) ∧ Aside0 (delta_Apart.tl k (l0.drop i) = some ts) ∧ Aside0 (delta_Apart.ok (l0.drop i) ts = true) ∧ Aside0 (∀ z, (delta_Apart.met (l0.drop i) ts z || p z) = delta_Apart.met l0 t0 z) ∧ Aside0 (MS Try.prog 9 3 w w' B (2 * i) p))
  case atStart => exact ⟨0, t0, fun _ => false, rfl, ⟨⟨Nat.zero_le _, by omega⟩⟩, HTL0, HOK0, ⟨fun z => by rw [List.drop_zero, Bool.or_false]⟩, HMS⟩
  case round =>
    clear HMS HTL0 HOK0
    obtain ⟨i, ts, p, rfl, HJ, HTL, HOK, HP, HM⟩ := hrel
    cases gk with
    | zero => exact absurd HJ.out (by omega)
    | succ k1 =>
    by_cases hi : i < l0.length
    rotate_left
    · have hii : i = l0.length := by have := HJ.out; omega
      have HMF : Aside0 (MS Try.prog 9 3 w wr B (2 * l0.length) (delta_Apart.met l0 t0)) := ⟨by
        have hm := HM.out
        rw [hii] at hm
        refine hm.ext fun s => ?_
        have := HP.out s
        rw [hii, List.drop_length] at this
        have e2 : delta_Apart.met [] ts s = false := by cases ts <;> rfl
        rw [e2, Bool.false_or] at this
        exact this⟩
      have d0 : decide ((i : Int) < (l0.length : Int)) = false := decide_eq_false (by omega)
      clear hii HP HTL HOK HM
      obtain ⟨D, hown, hD⟩ := HMF.out.own
      have HOWN := Aside0.mk hown
      have HDD := Aside0.mk hD
      have law := string_keyed UK
      have hkey := keyOf_string_mk UK (s := (⟨#[]⟩ : ByteArray)) (Nat.zero_le _)
      have HKEY := Aside0.mk hkey
      clear hown hD hkey
      go_wp2_with (at_delete; refine wpList_delete_own _ rfl _ _ 80 9 rfl 3 law UT _ B (2 * l0.length) D rfl HOWN.out _ _ rfl HKEY.out ?_; intro w6 hown1 hturn1; have HM6 : Aside0 (MS Try.prog 9 3 w w6 B (2 * l0.length) (delta_Apart.mm l0 t0)) := ⟨⟨_, hown1, HDD.out.del _⟩, HMF.out.hw.grown hturn1.grown HMF.out.hw.size (fun k e => by injection e with e; rw [← e]; exact HMF.out.hge), HMF.out.hge⟩; clear hown1 hturn1)
      clear HOWN HDD HKEY law HMF d0 hi
      go_loopg [45] (l1.length + 1) (fun kq v45 w' => ∃ (j : Nat) (ts : List ByteArray), v45 = .int .i64 (j : Int) ∧ Aside0 (j ≤ l1.length ∧ l1.length < j + kq) ∧ Aside0 (delta_Apart.tl k (l1.drop j) = some ts) ∧ Aside0 (delta_Apart.ok (l1.drop j) ts = true) ∧ Aside0 ((!delta_Apart.hit (delta_Apart.mm l0 t0) (l1.drop j) ts) = r1) ∧ Aside0 (MS Try.prog 9 3 w w' B (2 * l0.length) (delta_Apart.mm l0 t0)))
      case atStart => exact ⟨0, t1, rfl, ⟨⟨Nat.zero_le _, by omega⟩⟩, HTL1, HOK1, HRES, HM6⟩
      case round =>
        clear HM6 HTL1 HOK1 HRES
        generalize delta_Apart.mm l0 t0 = mq at *
        obtain ⟨j, ts, rfl, HJ2, HTL, HOK, HH, HM⟩ := hrel
        cases gk with
        | zero => exact absurd HJ2.out (by omega)
        | succ k2 =>
        by_cases hj : j < l1.length
        rotate_left
        · have hjj : j = l1.length := by have := HJ2.out; omega
          have HE : Aside0 (true = r1) := ⟨by
            rw [← HH.out, hjj, List.drop_length]
            cases ts <;> rfl⟩
          have d0 : decide ((j : Int) < (l1.length : Int)) = false := decide_eq_false (by omega)
          clear hjj
          go_wp2
          go_ret2
          exact ⟨by rw [← HE.out]; rfl, HM.out.hw⟩
        have d0 : decide ((j : Int) < (l1.length : Int)) = true := decide_eq_true (by omega)
        have b1 : (0 : Int) ≤ (j : Int) := by omega
        have b2 : (j : Int) < (l1.length : Int) := by omega
        have d4 : IntKind.i64.wrap ((j : Int) + 1) = ((j + 1 : Nat) : Int) := by have := HL1.out; rw [i64_w]; unfold wrap64; omega
        obtain ⟨ad, e, hx0, hx1, hx2, hx3, hx4⟩ := at_T61 HR1.out (j : Int) b1 b2
        cases e
        rw [Int.toNat_natCast] at hx0 hx1 hx2 hx3 hx4
        have htl := HTL.out
        have hok := HOK.out
        have hh := HH.out
        rw [delta_rises.drop_change l1 j hj] at htl hok hh
        generalize rd_T61 l1 (j : Int) = z at *
        obtain ⟨tx, tr, rfl, htx, htr⟩ := delta_Apart.tl_cons htl
        obtain ⟨xk, xh, xn, xo, xu⟩ := z
        have HX := Aside0.mk (show delta_beside.At_change w (ad.add (j * 5)) ⟨xk, xh, xn, xo, xu⟩ from ⟨hx0, hx1, hx2, hx3, hx4⟩)
        have hok2 := Bool.and_eq_true_iff.1 (show ((decide (xk.size ≤ 1000000) && decide (tx.size ≤ 1000000)) && delta_Apart.ok (l1.drop (j + 1)) tr) = true from hok)
        have hok3 := Bool.and_eq_true_iff.1 hok2.1
        have hcat : ¬ 9223372036854775807 < 1 + xk.size := by have := of_decide_eq_true hok3.1; omega
        have HCAT := Aside0.mk hcat
        clear hcat
        have HSZ := Aside0.mk (show (delta_Apart.eqk ⟨xk, xh, xn, xo, xu⟩).size ≤ maxLen ∧ tx.size ≤ maxLen from ⟨delta_Apart.eqk_size _ (of_decide_eq_true hok3.1), by have := of_decide_eq_true hok3.2; show tx.size ≤ 9223372036854775807; omega⟩)
        have HOKN := Aside0.mk hok2.2
        have HTC := Aside0.mk (fun W => delta_touches.calls k xk tx W htx)
        have HTLN := Aside0.mk htr
        have HHN := Aside0.mk (show (!((mq (delta_Apart.eqk ⟨xk, xh, xn, xo, xu⟩) || mq tx) || delta_Apart.hit mq (l1.drop (j + 1)) tr)) = r1 from hh)
        clear hx0 hx1 hx2 hx3 hx4 htl hok hh hok2 hok3 htx htr HTL HOK HH
        have hX := HX.out.below HM.out.hw
        have hx0 : wr.cell? (ad.add (j * 5)) = some (.string xk) := hX.1
        have hx1 : wr.cell? ⟨(ad.add (j * 5)).block, (ad.add (j * 5)).off + 1, none⟩ = some (.bool xh) := hX.2.1
        have hx2 : wr.cell? ⟨(ad.add (j * 5)).block, (ad.add (j * 5)).off + 2, none⟩ = some (.bool xn) := hX.2.2.1
        have hx3 : wr.cell? ⟨(ad.add (j * 5)).block, (ad.add (j * 5)).off + 3, none⟩ = some (.string xo) := hX.2.2.2.1
        have hx4 : wr.cell? ⟨(ad.add (j * 5)).block, (ad.add (j * 5)).off + 4, none⟩ = some (.string xu) := hX.2.2.2.2
        clear hX
        go_upto_region 13 with (fail)
        have hca : (wr.alloc (.cells #[.string xk, .bool xh, .bool xn, .string xo, .string xu] 61)).cell? ⟨wr.heap.size, 0, none⟩ = some (.string xk) := (blk_cell (blk_new wr _) 0).trans rfl
        have HMA := Aside0.mk (HM.out.below (below_alloc (Below.refl _ _) (.cells #[.string xk, .bool xh, .bool xn, .string xo, .string xu] 61)))
        generalize wr.alloc (.cells #[.string xk, .bool xh, .bool xn, .string xo, .string xu] 61) = wa at *
        clear hx0 hx1 hx2 hx3 hx4 HM
        obtain ⟨D, hown, hD⟩ := HMA.out.own
        have HOWN := Aside0.mk hown
        have HDD := Aside0.mk hD
        have law := string_keyed UK
        have HKEY := Aside0.mk (keyOf_string_mk UK HSZ.out.1)
        have HKEY2 := Aside0.mk (keyOf_string_mk UK HSZ.out.2)
        obtain ⟨g1, hg1⟩ : ∃ g : Bool, mq (delta_Apart.eqk ⟨xk, xh, xn, xo, xu⟩) = g := ⟨_, rfl⟩
        obtain ⟨g2, hg2⟩ : ∃ g : Bool, mq tx = g := ⟨_, rfl⟩
        have HG1 : Aside0 (Maps.has D (.string (delta_Apart.eqk ⟨xk, xh, xn, xo, xu⟩).data.toList) = g1) := ⟨by rw [hD.at_]; exact hg1⟩
        have HG2 : Aside0 (Maps.has D (.string tx.data.toList) = g2) := ⟨by rw [hD.at_]; exact hg2⟩
        rw [hg1, hg2] at HHN
        clear hown hD hg1 hg2
        have hcat := HCAT.out
        go_upto_region 15 with (first
          | (go_at_call 49; (with_reducible refine (HTC.out _).mono ?_); rintro e w3 ⟨rfl, hb⟩; have HOWN2 := Aside0.mk (own_map_blk HOWN.out hb); have HM3 := Aside0.mk (HMA.out.below hb); clear hb)
          | ((with_reducible refine gate_dst (N := 54) rfl ?_); refine wpList_lookup_own_ok_int _ rfl _ _ 80 rfl 9 3 .i64 law UT UE (delta_Apart.zeroE _) B (2 * l0.length) D rfl HOWN.out _ _ rfl HKEY.out ?_; intro cc hat hwc; rw [HG1.out]; clear hat hwc)
          | ((with_reducible refine gate_dst (N := 62) rfl ?_); refine wpList_lookup_own_ok_int _ rfl _ _ 80 rfl 9 3 .i64 law UT UE (delta_Apart.zeroE _) B (2 * l0.length) D rfl HOWN2.out _ _ rfl HKEY2.out ?_; intro cc2 hat hwc; rw [HG2.out]; clear hat hwc))
        clear law HKEY HKEY2 HOWN HOWN2 HDD HG1 HG2 hca
        cases g1
        · cases g2
          · go_wp2
            go_roundg k2
            case measure => omega
            case rel => exact ⟨j + 1, tr, by first | rfl | (simp [*]; done) | skip, ⟨by have := HJ2.out; omega⟩, HTLN, HOKN, ⟨by rw [← HHN.out]; simp⟩, HM3⟩
          · go_wp2
            go_ret2
            exact ⟨by rw [← HHN.out]; rfl, HM3.out.hw⟩
        · go_wp2
          go_ret2
          exact ⟨by rw [← HHN.out]; rfl, HM3.out.hw⟩
    have d0 : decide ((i : Int) < (l0.length : Int)) = true := decide_eq_true (by omega)
    have b1 : (0 : Int) ≤ (i : Int) := by omega
    have b2 : (i : Int) < (l0.length : Int) := by omega
    have HWF : Aside0 ((Lit.int .i64 (i : Int)).wf = true) := ⟨by have := HL0.out; simp [Lit.wf, IntKind.min, IntKind.max, IntKind.bits, IntKind.signed]; omega⟩
    have d4 : IntKind.i64.wrap ((i : Int) + 1) = ((i + 1 : Nat) : Int) := by have := HL0.out; rw [i64_w]; unfold wrap64; omega
    have HLN : Aside0 (2 * i < maxLen) := ⟨by have := HL0.out; show 2 * i < 9223372036854775807; omega⟩
    have HLN1 : Aside0 (2 * i + 1 < maxLen) := ⟨by have := HL0.out; show 2 * i + 1 < 9223372036854775807; omega⟩
    obtain ⟨ad, e, hx0, hx1, hx2, hx3, hx4⟩ := at_T61 HR0.out (i : Int) b1 b2
    cases e
    rw [Int.toNat_natCast] at hx0 hx1 hx2 hx3 hx4
    have htl := HTL.out
    have hok := HOK.out
    have hp := HP.out
    rw [delta_rises.drop_change l0 i hi] at htl hok hp
    generalize rd_T61 l0 (i : Int) = z at *
    obtain ⟨tx, tr, rfl, htx, htr⟩ := delta_Apart.tl_cons htl
    obtain ⟨xk, xh, xn, xo, xu⟩ := z
    have HX := Aside0.mk (show delta_beside.At_change w (ad.add (i * 5)) ⟨xk, xh, xn, xo, xu⟩ from ⟨hx0, hx1, hx2, hx3, hx4⟩)
    have hok2 := Bool.and_eq_true_iff.1 (show ((decide (xk.size ≤ 1000000) && decide (tx.size ≤ 1000000)) && delta_Apart.ok (l0.drop (i + 1)) tr) = true from hok)
    have hok3 := Bool.and_eq_true_iff.1 hok2.1
    have hcat : ¬ 9223372036854775807 < 1 + xk.size := by have := of_decide_eq_true hok3.1; omega
    have HCAT := Aside0.mk hcat
    clear hcat
    have HSZ := Aside0.mk (show (delta_Apart.eqk ⟨xk, xh, xn, xo, xu⟩).size ≤ maxLen ∧ tx.size ≤ maxLen from ⟨delta_Apart.eqk_size _ (of_decide_eq_true hok3.1), by have := of_decide_eq_true hok3.2; show tx.size ≤ 9223372036854775807; omega⟩)
    have HOKN := Aside0.mk hok2.2
    have HTC := Aside0.mk (fun W => delta_touches.calls k xk tx W htx)
    have HTLN := Aside0.mk htr
    have HPN : Aside0 (∀ z, (delta_Apart.met (l0.drop (i + 1)) tr z || (decide (z = tx) || (decide (z = delta_Apart.eqk ⟨xk, xh, xn, xo, xu⟩) || p z))) = delta_Apart.met l0 t0 z) := ⟨fun z => by
      rw [← hp z]
      show _ = (((decide (z = tx) || decide (z = delta_Apart.eqk ⟨xk, xh, xn, xo, xu⟩)) || delta_Apart.met (l0.drop (i + 1)) tr z) || p z)
      cases delta_Apart.met (l0.drop (i + 1)) tr z <;> cases decide (z = tx) <;> cases decide (z = delta_Apart.eqk ⟨xk, xh, xn, xo, xu⟩) <;> simp⟩
    clear hx0 hx1 hx2 hx3 hx4 htl hok hp hok2 hok3 htx htr HTL HOK HP
    have hX := HX.out.below HM.out.hw
    have hx0 : wr.cell? (ad.add (i * 5)) = some (.string xk) := hX.1
    have hx1 : wr.cell? ⟨(ad.add (i * 5)).block, (ad.add (i * 5)).off + 1, none⟩ = some (.bool xh) := hX.2.1
    have hx2 : wr.cell? ⟨(ad.add (i * 5)).block, (ad.add (i * 5)).off + 2, none⟩ = some (.bool xn) := hX.2.2.1
    have hx3 : wr.cell? ⟨(ad.add (i * 5)).block, (ad.add (i * 5)).off + 3, none⟩ = some (.string xo) := hX.2.2.2.1
    have hx4 : wr.cell? ⟨(ad.add (i * 5)).block, (ad.add (i * 5)).off + 4, none⟩ = some (.string xu) := hX.2.2.2.2
    clear hX
    go_upto_region 7 with (fail)
    have hca : (wr.alloc (.cells #[.string xk, .bool xh, .bool xn, .string xo, .string xu] 61)).cell? ⟨wr.heap.size, 0, none⟩ = some (.string xk) := (blk_cell (blk_new wr _) 0).trans rfl
    have HMA := Aside0.mk (HM.out.below (below_alloc (Below.refl _ _) (.cells #[.string xk, .bool xh, .bool xn, .string xo, .string xu] 61)))
    generalize wr.alloc (.cells #[.string xk, .bool xh, .bool xn, .string xo, .string xu] 61) = wa at *
    clear hx0 hx1 hx2 hx3 hx4 HM
    have hcat := HCAT.out
    have HMD := Aside0.mk (HMA.out.below (below_drew (Below.refl _ _)))
    have hcd : wa.drew.cell? ⟨wr.heap.size, 0, none⟩ = some (.string xk) := hca
    refine start_ (n := 12) (S := fun w' => w'.cell? ⟨wr.heap.size, 0, none⟩ = some (.string xk)) (ds := [10, 11]) #[false, false, false, false, false, false, false, false, false, false, false, false] (by kernel_rfl) rfl rfl (hcd) (fun hHeld => ?_)
    refine pure_ (i := 0) (N := some 31) (v := ?_) (a' := ?_) #[true, false, false, false, false, false, false, false, false, false, false, false] rfl rfl (by kernel_rfl) (fun _ _ _ h => h) (Or.inl ⟨by rfl, ?_⟩) ?_ ?_
    rotate_left
    · intro w'
      go_simp
      with_reducible rfl
    rotate_left
    · simp only [Act.put, List.setIfInBounds_toArray, List.set_cons_zero, List.set_cons_succ, i64_w, i32_w]
      rfl
    refine pure_ (i := 1) (N := some 32) (v := ?_) (a' := ?_) #[true, true, false, false, false, false, false, false, false, false, false, false] rfl rfl (by kernel_rfl) (fun _ _ _ h => h) (Or.inl ⟨by rfl, ?_⟩) ?_ ?_
    rotate_left
    · intro w'
      go_simp
      with_reducible rfl
    rotate_left
    · simp only [Act.put, List.setIfInBounds_toArray, List.set_cons_zero, List.set_cons_succ, i64_w, i32_w]
      rfl
    refine pure_ (i := 4) (N := some 35) (v := ?_) (a' := ?_) #[true, true, false, false, true, false, false, false, false, false, false, false] rfl rfl (by kernel_rfl) (fun _ _ _ h => h) (Or.inl ⟨by rfl, ?_⟩) ?_ ?_
    rotate_left
    · intro w'
      go_simp
      with_reducible rfl
    rotate_left
    · simp only [Act.put, List.setIfInBounds_toArray, List.set_cons_zero, List.set_cons_succ, i64_w, i32_w]
      rfl
    refine pure_ (i := 5) (N := some 36) (v := ?_) (a' := ?_) #[true, true, false, false, true, true, false, false, false, false, false, false] rfl rfl (by kernel_rfl) (fun _ _ _ h => h) (Or.inl ⟨by rfl, ?_⟩) ?_ ?_
    rotate_left
    · intro w'
      go_simp
      with_reducible rfl
    rotate_left
    · simp only [Act.put, List.setIfInBounds_toArray, List.set_cons_zero, List.set_cons_succ, i64_w, i32_w]
      rfl
    refine pure_ (i := 8) (N := some 39) (v := ?_) (a' := ?_) #[true, true, false, false, true, true, false, false, true, false, false, false] rfl rfl (by kernel_rfl) (fun _ _ _ h => h) (Or.inl ⟨by rfl, ?_⟩) ?_ ?_
    rotate_left
    · intro w'
      go_simp
      with_reducible rfl
    rotate_left
    · simp only [Act.put, List.setIfInBounds_toArray, List.set_cons_zero, List.set_cons_succ, i64_w, i32_w]
      rfl
    refine pure_ (i := 9) (N := some 40) (v := ?_) (a' := ?_) #[true, true, false, false, true, true, false, false, true, true, false, false] rfl rfl (by kernel_rfl) (fun _ _ _ h => h) (Or.inl ⟨by rfl, ?_⟩) ?_ ?_
    rotate_left
    · intro w'
      go_simp
      with_reducible rfl
    rotate_left
    · simp only [Act.put, List.setIfInBounds_toArray, List.set_cons_zero, List.set_cons_succ, i64_w, i32_w]
      rfl
    refine take_ (i := 2) (N := some 33) (v := ?_) (a' := ?_) #[true, true, true, false, true, true, false, false, true, true, false, false] rfl rfl (by kernel_rfl) (fun _ _ _ h => h) (Or.inl ⟨by rfl, ?_⟩) hHeld ?_ ?_
    rotate_left
    · intro w' s0
      go_simp
      with_reducible rfl
    rotate_left
    · simp only [Act.put, List.setIfInBounds_toArray, List.set_cons_zero, List.set_cons_succ, i64_w, i32_w]
      rfl
    refine pure_ (i := 3) (N := some 34) (v := ?_) (a' := ?_) #[true, true, true, true, true, true, false, false, true, true, false, false] rfl rfl (by kernel_rfl) (fun _ _ _ h => h) (Or.inl ⟨by rfl, ?_⟩) ?_ ?_
    rotate_left
    · intro w'
      go_simp
      with_reducible rfl
    rotate_left
    · simp only [Act.put, List.setIfInBounds_toArray, List.set_cons_zero, List.set_cons_succ, i64_w, i32_w]
      rfl
    refine take_ (i := 6) (N := some 37) (v := ?_) (a' := ?_) #[true, true, true, true, true, true, true, false, true, true, false, false] rfl rfl (by kernel_rfl) (fun _ _ _ h => h) (Or.inl ⟨by rfl, ?_⟩) hHeld ?_ ?_
    rotate_left
    · intro w' s0
      go_simp
      with_reducible rfl
    rotate_left
    · simp only [Act.put, List.setIfInBounds_toArray, List.set_cons_zero, List.set_cons_succ, i64_w, i32_w]
      rfl
    refine one_ (i := 7) (N := some 38) #[true, true, true, true, true, true, true, true, true, true, false, false] rfl rfl (by kernel_rfl) (by decide) (fun K hK => ?_)
    refine goes_ Try.func49 (by kernel_rfl) rfl #[.string xk] (by rfl) rfl rfl (by simp only [List.map_toArray, List.map_cons, List.map_nil]; rfl) ?_
    with_reducible refine (HTC.out _).mono ?_
    rintro e w3 ⟨rfl, hb⟩
    refine ⟨_, rfl, ?_⟩
    have HM3 := Aside0.mk (HMD.out.below hb)
    have hc3 : w3.cell? ⟨wr.heap.size, 0, none⟩ = some (.string xk) := (hb.cell (World.block_lt_of_cell? _ _ hcd)).trans hcd
    have HC3 := Aside0.mk hc3
    clear hb hc3
    refine hK.out _ _ (HC3.out) (fun hHeld => ?_)
    clear hK K
    refine norm_ (a' := ?_) ?_ ?_
    rotate_left
    · show Act.put _ (some 38) _ = _
      simp only [Act.put, List.setIfInBounds_toArray, List.set_cons_zero, List.set_cons_succ, i64_w, i32_w]
      rfl
    refine last_ (i := 10) (N := none) #[true, true, true, true, true, true, true, true, true, true, true, false] rfl rfl (by kernel_rfl) (by decide) (fun K hK => ?_)
    obtain ⟨w4, hrun, hms, -⟩ := HM3.out.put (T := 80) (s := (⟨#[61]⟩ : ByteArray) ++ xk) UK UE UT HLN.out HSZ.out.1 HWF.out
    refine skip_ (w1 := w4) (by rfl) rfl ?_ ?_
    · first | (go_simp; done) | (go_simp; rfl)
    clear hrun
    have HM4 := Aside0.mk hms
    clear hms
    refine hK.out _ _ ?_
    clear hK K
    refine last_ (i := 11) (N := none) #[true, true, true, true, true, true, true, true, true, true, true, true] rfl rfl (by kernel_rfl) (by decide) (fun K hK => ?_)
    obtain ⟨w5, hrun, hms, -⟩ := HM4.out.put (T := 80) UK UE UT HLN1.out HSZ.out.2 HWF.out
    refine skip_ (w1 := w5) (by rfl) rfl ?_ ?_
    · first | (go_simp; done) | (go_simp; rfl)
    clear hrun
    have HM5 := Aside0.mk hms
    clear hms
    refine hK.out _ _ ?_
    clear hK K
    refine done_ (by kernel_rfl) ?_
    go_wp2
    go_roundg k1
    case measure => omega
    case rel => exact ⟨i + 1, tr, _, by first | rfl | (simp [*]; done) | skip, ⟨by have := HJ.out; omega⟩, HTLN, HOKN, HPN, ⟨HM5.out⟩⟩


end Go.Proofs.Ytcocddpknkklhaa.PA
