-- WRITTEN BY a program of this session (pp.sh)
import Derived.Test.YtcocddpknkklhaaPAx0
import Derived.Test.YtcocddpknkklhaaPAx4
import Derived.Test.YtcocddpknkklhaaPAx5
namespace Go.Proofs.Ytcocddpknkklhaa.PA
open Go.RowKit Go.Proofs.YtcocddpknkklhaaW.PrintWords Go.Proofs.YtcocddpknkklhaaW.PrintLast Go.Proofs.YtcocddpknkklhaaW.PrintMore Go.Proofs.Ytcocddpknkklhaa.Plain
attribute [local go_sem] max2_int min2_int max_two min_two max_three min_three max_four min_four binOp_leq_s binOp_gtr_s binOp_geq_s lit_byte   -- for this text's walks alone
set_option linter.unusedVariables false
set_option linter.unusedSimpArgs false

/-! ### coppiceref18_Right: function 20, by hand -/
/-- The keys rise, held side by side. -/
def coppiceref18_Right.adj : List S61 → Bool
  | a :: b :: r => MergeP.lt a.f0 b.f0 && coppiceref18_Right.adj (b :: r)
  | _ => true
/-- Changes are right. -/
def coppiceref18_Right.f (l : List S61) : Option Bool := if l.length ≤ 1000000000 then some (coppiceref18_Right.adj l && l.all delta_Check.rightB) else none
theorem coppiceref18_Right.short (l : List S61) (h : l.length ≤ 1) : coppiceref18_Right.adj l = true := by
  match l, h with
  | [], _ => rfl
  | [a], _ => rfl
  | a :: b :: r, h => simp at h
theorem coppiceref18_Right.step0 (l : List S61) (h : 0 < l.length) : (coppiceref18_Right.adj (l.drop (0 - 1)) && (l.drop 0).all delta_Check.rightB) = (delta_Check.rightB (rd_T61 l ((0 : Nat) : Int)) && (coppiceref18_Right.adj (l.drop (0 + 1 - 1)) && (l.drop (0 + 1)).all delta_Check.rightB)) := by
  have e := delta_rises.drop_change l 0 h
  show (coppiceref18_Right.adj l && l.all delta_Check.rightB) = (_ && (coppiceref18_Right.adj l && _))
  have : l.all delta_Check.rightB = (delta_Check.rightB (rd_T61 l ((0 : Nat) : Int)) && (l.drop (0 + 1)).all delta_Check.rightB) := by
    have e2 : l = rd_T61 l ((0 : Nat) : Int) :: l.drop (0 + 1) := e
    conv => lhs; rw [e2]
    rfl
  rw [this]
  cases delta_Check.rightB (rd_T61 l ((0 : Nat) : Int)) <;> simp
theorem coppiceref18_Right.step (l : List S61) (i : Nat) (h : i + 1 < l.length) : (coppiceref18_Right.adj (l.drop (i + 1 - 1)) && (l.drop (i + 1)).all delta_Check.rightB) = (MergeP.lt (rd_T61 l (i : Int)).f0 (rd_T61 l ((i + 1 : Nat) : Int)).f0 && (delta_Check.rightB (rd_T61 l ((i + 1 : Nat) : Int)) && (coppiceref18_Right.adj (l.drop (i + 1 + 1 - 1)) && (l.drop (i + 1 + 1)).all delta_Check.rightB))) := by
  have e1 := delta_rises.drop_change l i (by omega)
  have e2 := delta_rises.drop_change l (i + 1) h
  show (coppiceref18_Right.adj (l.drop i) && _) = (_ && (_ && (coppiceref18_Right.adj (l.drop (i + 1)) && _)))
  rw [e1, e2]
  show ((MergeP.lt _ _ && coppiceref18_Right.adj (_ :: l.drop (i + 1 + 1))) && (delta_Check.rightB _ && _)) = _
  generalize coppiceref18_Right.adj (rd_T61 l ((i + 1 : Nat) : Int) :: l.drop (i + 1 + 1)) = A
  generalize delta_Check.rightB (rd_T61 l ((i + 1 : Nat) : Int)) = B
  generalize MergeP.lt (rd_T61 l (i : Int)).f0 (rd_T61 l ((i + 1 : Nat) : Int)).f0 = C
  generalize (l.drop (i + 1 + 1)).all delta_Check.rightB = D
  cases A <;> cases B <;> cases C <;> cases D <;> rfl
set_option maxHeartbeats 16000000 in
set_option maxRecDepth 100000 in
theorem coppiceref18_Right.calls (A0 : Option Addr) (c0 : Nat) (l0 : List S61) (r : Bool) (w : World) (hr0 : Kd.C k61 w A0 l0.length l0) (hc0 : l0.length ≤ c0) (h : coppiceref18_Right.f l0 = some r) :
    Calls Try.prog 20 #[.slice A0 l0.length c0] w fun e w' => e = .returned (.bool r) ∧ Below w.heap.size w w' := by
  unfold coppiceref18_Right.f at h
  by_cases hl : l0.length ≤ 1000000000
  rotate_left
  · rw [if_neg hl] at h; cases h
  rw [if_pos hl] at h
  have HQ := Aside0.mk (Option.some.inj h)
  have HR0 := Aside0.mk hr0
  have HL := Aside0.mk hl
  have HB := Aside0.mk (Below.refl w.heap.size w)
  clear h hr0 hc0 hl
  go_enter Try.func20, Try.ntmps20
  go_wp2
  go_loopg [3] (l0.length + 1) (fun kq v3 w' => ∃ i : Nat, v3 = .int .i64 (i : Int) ∧ Aside0 (i ≤ l0.length ∧ l0.length < i + kq) ∧ Aside0 ((coppiceref18_Right.adj (l0.drop (i - 1)) && (l0.drop i).all delta_Check.rightB) = r) ∧ Aside0 (Below w.heap.size w w'))
  case atStart => exact ⟨0, rfl, ⟨⟨Nat.zero_le _, by omega⟩⟩, HQ, HB⟩
  case round =>
    clear HB
    obtain ⟨i, rfl, HJ, HI, HB⟩ := hrel
    cases gk with
    | zero => exact absurd HJ.out (by omega)
    | succ k1 =>
    by_cases hi : i < l0.length
    rotate_left
    · have hii : i = l0.length := by have := HJ.out; omega
      have HE : Aside0 (true = r) := ⟨by rw [← HI.out, hii, List.drop_length, coppiceref18_Right.short _ (by simp; omega)]; rfl⟩
      have d0 : decide ((i : Int) < (l0.length : Int)) = false := decide_eq_false (by omega)
      clear hii
      go_wp2
      go_ret
      exact ⟨ret_b HE.out, HB.out⟩
    have d0 : decide ((i : Int) < (l0.length : Int)) = true := decide_eq_true (by omega)
    have b1 : (0 : Int) ≤ (i : Int) := by omega
    have b2 : (i : Int) < (l0.length : Int) := by omega
    have d4 : IntKind.i64.wrap ((i : Int) + 1) = ((i + 1 : Nat) : Int) := by have := HL.out; rw [i64_w]; unfold wrap64; omega
    obtain ⟨ad, e, hx0, hx1, hx2, hx3, hx4⟩ := at_T61 HR0.out (i : Int) b1 b2
    cases e
    rw [Int.toNat_natCast] at hx0 hx1 hx2 hx3 hx4
    replace hx0 := (HB.out.cell (World.block_lt_of_cell? w _ hx0)).trans hx0
    replace hx1 := (HB.out.cell (World.block_lt_of_cell? w _ hx1)).trans hx1
    replace hx2 := (HB.out.cell (World.block_lt_of_cell? w _ hx2)).trans hx2
    replace hx3 := (HB.out.cell (World.block_lt_of_cell? w _ hx3)).trans hx3
    replace hx4 := (HB.out.cell (World.block_lt_of_cell? w _ hx4)).trans hx4
    generalize hz : rd_T61 l0 (i : Int) = z at *
    have HZ := Aside0.mk hz
    clear hz
    obtain ⟨xk, xh, xn, xo, xu⟩ := z
    obtain ⟨pv, hpv⟩ : ∃ pv : Bool, (decide (0 < i) && !(MergeP.lt (rd_T61 l0 ((i - 1 : Nat) : Int)).f0 xk)) = pv := ⟨_, rfl⟩
    have HPV := Aside0.mk hpv
    clear hpv
    go_upto_region 4 with (fail)
    replace hx0 : wr.cell? (ad.add (i * 5)) = some (.string xk) := hx0
    replace hx1 : wr.cell? ⟨(ad.add (i * 5)).block, (ad.add (i * 5)).off + 1, none⟩ = some (.bool xh) := hx1
    replace hx2 : wr.cell? ⟨(ad.add (i * 5)).block, (ad.add (i * 5)).off + 2, none⟩ = some (.bool xn) := hx2
    replace hx3 : wr.cell? ⟨(ad.add (i * 5)).block, (ad.add (i * 5)).off + 3, none⟩ = some (.string xo) := hx3
    replace hx4 : wr.cell? ⟨(ad.add (i * 5)).block, (ad.add (i * 5)).off + 4, none⟩ = some (.string xu) := hx4
    go_upto_region 5 with (fail)
    have HBW : Aside0 (Below wr.heap.size wr (wr.alloc (.cells #[.string xk, .bool xh, .bool xn, .string xo, .string xu] 61))) := ⟨below_alloc (Below.refl _ _) _⟩
    have HCC := Aside0.mk (blk_new wr (.cells #[.string xk, .bool xh, .bool xn, .string xo, .string xu] 61))
    have HPC : Aside0 (0 < i → (wr.alloc (.cells #[.string xk, .bool xh, .bool xn, .string xo, .string xu] 61)).cell? (ad.add ((i - 1) * 5)) = some (.string (rd_T61 l0 ((i - 1 : Nat) : Int)).f0)) := ⟨fun h => by
      obtain ⟨ad2, e2, hy0, _⟩ := at_T61 HR0.out ((i - 1 : Nat) : Int) (by omega) (by omega)
      obtain rfl := Option.some.inj e2
      rw [Int.toNat_natCast] at hy0
      have hy1 := (HB.out.cell (World.block_lt_of_cell? w _ hy0)).trans hy0
      exact (HBW.out.cell (World.block_lt_of_cell? _ _ hy1)).trans hy1⟩
    generalize hp : rd_T61 l0 ((i - 1 : Nat) : Int) = p at *
    have HP : Aside0 (rd_T61 l0 ((i - 1 : Nat) : Int) = p) := ⟨hp⟩
    clear hp
    generalize hwa : wr.alloc (.cells #[.string xk, .bool xh, .bool xn, .string xo, .string xu] 61) = wa at *
    clear hwa hx0 hx1 hx2 hx3 hx4
    go_cut [72] (fun v72 wc => v72 = .bool (pv || !(delta_Check.rightB ⟨xk, xh, xn, xo, xu⟩)) ∧ Aside0 (Below wr.heap.size wr wc))
    case first =>
      clear HI HR0 HQ HB HJ
      have hc0 : wa.cell? ⟨wr.heap.size, 0, none⟩ = some (.string xk) := (blk_cell HCC.out 0).trans rfl
      have hc1 : wa.cell? ⟨wr.heap.size, 1, none⟩ = some (.bool xh) := (blk_cell HCC.out 1).trans rfl
      have hc2 : wa.cell? ⟨wr.heap.size, 2, none⟩ = some (.bool xn) := (blk_cell HCC.out 2).trans rfl
      have hc3 : wa.cell? ⟨wr.heap.size, 3, none⟩ = some (.string xo) := (blk_cell HCC.out 3).trans rfl
      have hc4 : wa.cell? ⟨wr.heap.size, 4, none⟩ = some (.string xu) := (blk_cell HCC.out 4).trans rfl
      rcases Nat.eq_zero_or_pos i with h0 | h0
      · subst h0
        have e1 : pv = false := by rw [← HPV.out]; rfl
        subst e1
        have d1 : decide (((0 : Nat) : Int) > 0) = false := by decide
        cases xh
        · cases xn
          · go_quiet (fail)
            go_wp2
            go_meet
            case rel => exact ⟨by simp [delta_Check.rightB, *], ⟨HBW.out.trans (pw_below_drewN (Below.refl _ _) _)⟩⟩
          · cases hxo : (xo.toList == ([] : List UInt8))
            · have exo : (xo.toList == ([] : List UInt8)) = false := hxo
              have fxo : (xo.toList != ([] : List UInt8)) = true := by show (!(_ == _)) = _; rw [hxo]; rfl
              have gxo : xo.toList.isEmpty = false := by rw [← delta_Check.bE]; exact hxo
              go_quiet (fail)
              go_wp2
              go_meet
              case rel => exact ⟨by simp [delta_Check.rightB, *], ⟨HBW.out.trans (pw_below_drewN (Below.refl _ _) _)⟩⟩
            · have exo : (xo.toList == ([] : List UInt8)) = true := hxo
              have fxo : (xo.toList != ([] : List UInt8)) = false := by show (!(_ == _)) = _; rw [hxo]; rfl
              have gxo : xo.toList.isEmpty = true := by rw [← delta_Check.bE]; exact hxo
              go_quiet (fail)
              go_wp2
              go_meet
              case rel => exact ⟨by simp [delta_Check.rightB, *], ⟨HBW.out.trans (pw_below_drewN (Below.refl _ _) _)⟩⟩
        · cases xn
          · cases hxu : (xu.toList == ([] : List UInt8))
            · have exu : (xu.toList == ([] : List UInt8)) = false := hxu
              have fxu : (xu.toList != ([] : List UInt8)) = true := by show (!(_ == _)) = _; rw [hxu]; rfl
              have gxu : xu.toList.isEmpty = false := by rw [← delta_Check.bE]; exact hxu
              go_quiet (fail)
              go_wp2
              go_meet
              case rel => exact ⟨by simp [delta_Check.rightB, *], ⟨HBW.out.trans (pw_below_drewN (Below.refl _ _) _)⟩⟩
            · have exu : (xu.toList == ([] : List UInt8)) = true := hxu
              have fxu : (xu.toList != ([] : List UInt8)) = false := by show (!(_ == _)) = _; rw [hxu]; rfl
              have gxu : xu.toList.isEmpty = true := by rw [← delta_Check.bE]; exact hxu
              go_quiet (fail)
              go_wp2
              go_meet
              case rel => exact ⟨by simp [delta_Check.rightB, *], ⟨HBW.out.trans (pw_below_drewN (Below.refl _ _) _)⟩⟩
          · cases ht : (xo.toList == xu.toList)
            · have ft : (xo.toList != xu.toList) = true := by show (!(_ == _)) = _; rw [ht]; rfl
              go_quiet (fail)
              go_wp2
              go_meet
              case rel => exact ⟨by simp [delta_Check.rightB, *], ⟨HBW.out.trans (pw_below_drewN (Below.refl _ _) _)⟩⟩
            · have ft : (xo.toList != xu.toList) = false := by show (!(_ == _)) = _; rw [ht]; rfl
              go_quiet (fail)
              go_wp2
              go_meet
              case rel => exact ⟨by simp [delta_Check.rightB, *], ⟨HBW.out.trans (pw_below_drewN (Below.refl _ _) _)⟩⟩
      · have hp0 := HPC.out h0
        obtain ⟨j, rfl⟩ : ∃ j, i = j + 1 := ⟨i - 1, by omega⟩
        rw [Nat.add_sub_cancel] at hp0
        have d1 : decide (((j + 1 : Nat) : Int) > 0) = true := decide_eq_true (by omega)
        have d2 : IntKind.i64.wrap (((j + 1 : Nat) : Int) - 1) = (j : Int) := by have := HL.out; rw [i64_w]; unfold wrap64; omega
        have b3 : (0 : Int) ≤ (j : Int) := by omega
        have b4 : (j : Int) < (l0.length : Int) := by omega
        have d3 : decide (((j : Int) + 1) > 0) = true := decide_eq_true (by omega)
        have d6 : IntKind.i64.wrap (j : Int) = (j : Int) := by have := HL.out; rw [i64_w]; unfold wrap64; omega
        have d5 : IntKind.i64.wrap ((j : Int) + 1 - 1) = (j : Int) := by have := HL.out; rw [i64_w]; unfold wrap64; omega
        cases hq : Op.bytesLess p.f0.toList xk.toList
        · have e1 : pv = true := by rw [← HPV.out]; show (decide (0 < j + 1) && !(Op.bytesLess p.f0.toList xk.toList)) = true; rw [hq]; simp
          subst e1
          clear HPC HPV HL
          go_quiet (fail)
          go_wp2
          go_meet
          case rel => exact ⟨by simp [delta_Check.rightB, *], ⟨HBW.out.trans (pw_below_drewN (Below.refl _ _) _)⟩⟩
        · have e1 : pv = false := by rw [← HPV.out]; show (decide (0 < j + 1) && !(Op.bytesLess p.f0.toList xk.toList)) = false; rw [hq]; simp
          subst e1
          clear HPC HPV HL
          cases xh
          · cases xn
            · go_quiet (fail)
              go_wp2
              go_meet
              case rel => exact ⟨by simp [delta_Check.rightB, *], ⟨HBW.out.trans (pw_below_drewN (Below.refl _ _) _)⟩⟩
            · cases hxo : (xo.toList == ([] : List UInt8))
              · have exo : (xo.toList == ([] : List UInt8)) = false := hxo
                have fxo : (xo.toList != ([] : List UInt8)) = true := by show (!(_ == _)) = _; rw [hxo]; rfl
                have gxo : xo.toList.isEmpty = false := by rw [← delta_Check.bE]; exact hxo
                go_quiet (fail)
                go_wp2
                go_meet
                case rel => exact ⟨by simp [delta_Check.rightB, *], ⟨HBW.out.trans (pw_below_drewN (Below.refl _ _) _)⟩⟩
              · have exo : (xo.toList == ([] : List UInt8)) = true := hxo
                have fxo : (xo.toList != ([] : List UInt8)) = false := by show (!(_ == _)) = _; rw [hxo]; rfl
                have gxo : xo.toList.isEmpty = true := by rw [← delta_Check.bE]; exact hxo
                go_quiet (fail)
                go_wp2
                go_meet
                case rel => exact ⟨by simp [delta_Check.rightB, *], ⟨HBW.out.trans (pw_below_drewN (Below.refl _ _) _)⟩⟩
          · cases xn
            · cases hxu : (xu.toList == ([] : List UInt8))
              · have exu : (xu.toList == ([] : List UInt8)) = false := hxu
                have fxu : (xu.toList != ([] : List UInt8)) = true := by show (!(_ == _)) = _; rw [hxu]; rfl
                have gxu : xu.toList.isEmpty = false := by rw [← delta_Check.bE]; exact hxu
                go_quiet (fail)
                go_wp2
                go_meet
                case rel => exact ⟨by simp [delta_Check.rightB, *], ⟨HBW.out.trans (pw_below_drewN (Below.refl _ _) _)⟩⟩
              · have exu : (xu.toList == ([] : List UInt8)) = true := hxu
                have fxu : (xu.toList != ([] : List UInt8)) = false := by show (!(_ == _)) = _; rw [hxu]; rfl
                have gxu : xu.toList.isEmpty = true := by rw [← delta_Check.bE]; exact hxu
                go_quiet (fail)
                go_wp2
                go_meet
                case rel => exact ⟨by simp [delta_Check.rightB, *], ⟨HBW.out.trans (pw_below_drewN (Below.refl _ _) _)⟩⟩
            · cases ht : (xo.toList == xu.toList)
              · have ft : (xo.toList != xu.toList) = true := by show (!(_ == _)) = _; rw [ht]; rfl
                go_quiet (fail)
                go_wp2
                go_meet
                case rel => exact ⟨by simp [delta_Check.rightB, *], ⟨HBW.out.trans (pw_below_drewN (Below.refl _ _) _)⟩⟩
              · have ft : (xo.toList != xu.toList) = false := by show (!(_ == _)) = _; rw [ht]; rfl
                go_quiet (fail)
                go_wp2
                go_meet
                case rel => exact ⟨by simp [delta_Check.rightB, *], ⟨HBW.out.trans (pw_below_drewN (Below.refl _ _) _)⟩⟩
    case rest =>
      obtain ⟨rfl, HW⟩ := hcut
      have HB2 := Aside0.mk (below_step HB.out HW.out)
      clear HBW HCC HPC HW
      have hstep : (coppiceref18_Right.adj (l0.drop (i - 1)) && (l0.drop i).all delta_Check.rightB) = (!pv && (delta_Check.rightB ⟨xk, xh, xn, xo, xu⟩ && (coppiceref18_Right.adj (l0.drop (i + 1 - 1)) && (l0.drop (i + 1)).all delta_Check.rightB))) := by
        rcases Nat.eq_zero_or_pos i with h0 | h0
        · subst h0
          have e1 : pv = false := by rw [← HPV.out]; rfl
          rw [e1, coppiceref18_Right.step0 l0 hi, HZ.out]
          rfl
        · obtain ⟨j, rfl⟩ : ∃ j, i = j + 1 := ⟨i - 1, by omega⟩
          have hp2 := HP.out
          rw [Nat.add_sub_cancel] at hp2
          rw [coppiceref18_Right.step l0 j hi, HZ.out, ← HPV.out, hp2]
          simp [Nat.succ_pos]
      rw [HI.out] at hstep
      have HS := Aside0.mk hstep
      clear hstep HI HPV HP HZ
      generalize delta_Check.rightB ⟨xk, xh, xn, xo, xu⟩ = rb at *
      obtain ⟨tb, htb⟩ : ∃ tb : Bool, (pv || !rb) = tb := ⟨_, rfl⟩
      rw [htb]
      have HT := Aside0.mk htb
      clear htb
      cases tb with
      | true =>
        go_wp2
        go_ret
        exact ⟨ret_b (by rw [HS.out]; have := HT.out; cases pv <;> cases rb <;> first | rfl | (simp at this)), HB2.out⟩
      | false =>
        go_wp2
        go_roundg k1
        case measure => omega
        case rel => exact ⟨i + 1, by first | rfl | (simp [*]; done) | skip, ⟨by have := HJ.out; omega⟩, ⟨by rw [HS.out]; have := HT.out; cases pv <;> cases rb <;> first | rfl | (simp at this) | simp⟩, HB2⟩


end Go.Proofs.Ytcocddpknkklhaa.PA
