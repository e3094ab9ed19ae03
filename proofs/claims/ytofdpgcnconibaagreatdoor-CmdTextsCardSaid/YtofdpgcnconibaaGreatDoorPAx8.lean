-- WRITTEN BY a program of this session (pp.sh)
import Derived.Test.YtofdpgcnconibaaGreatDoorPAx0
import Derived.Test.YtofdpgcnconibaaGreatDoorPAx3
import Derived.Test.YtofdpgcnconibaaGreatDoorPAx7
set_option linter.unusedVariables false
set_option linter.unusedSimpArgs false
namespace Go.Proofs.YtofdpgcnconibaaGreatDoor.PA
open Go.RowKit Go.Proofs.YtofdpgcnconibaaGreatDoorW.PrintWords Go.Proofs.YtofdpgcnconibaaGreatDoorW.PrintLast Go.Proofs.YtofdpgcnconibaaGreatDoorW.PrintMore Go.Proofs.YtofdpgcnconibaaGreatDoor.Plain
attribute [local go_sem] max2_int min2_int max_two min_two max_three min_three max_four min_four binOp_leq_s binOp_gtr_s binOp_geq_s lit_byte   -- for this text's walks alone
set_option linter.unusedVariables false
set_option linter.unusedSimpArgs false

/-! ### cmd_check: function 28, by hand -/
-- 28
/-- A command of a form o, with what is told of its path, its second path, its data, its name. -/
def cmd_check.ok (o : Bool × Bool × Bool × Bool × Int × Int × Bool) (c : Int) (p t m : ByteArray) (n : Int) (lp lt ft nm : Bool) : Bool :=
  o.2.2.2.2.2.2 && ((if c = 16 then p.toList == ([] : List UInt8) else lp) && (ft && ((if o.1 = true then lt else t.toList == ([] : List UInt8)) &&
    ((if o.2.1 = true then nm else m.toList == ([] : List UInt8)) && (decide (o.2.2.2.2.1 ≤ n) && decide (n ≤ o.2.2.2.2.2.1))))))
def cmd_check.f (k : Nat) (c : Int) (p t m : ByteArray) (n : Int) (d : ByteArray) : Option (Option Int) :=
  (cmd_of.f k c).bind fun o => (cmd_loose.f k p).bind fun lp => (cmd_loose.f k t).bind fun lt => (cmd_fits.f c p t m n d).bind fun ft => (path_Name.f m).bind fun nm =>
    some (if cmd_check.ok o c p t m n lp lt ft nm = true then none else some 190)
section
theorem cmd_check.bE (l : List UInt8) : (l == ([] : List UInt8)) = l.isEmpty := by cases l <;> rfl
variable {o1 o2 o3 o4 : Bool} {o5 o6 : Int} {o7 : Bool} {c : Int} {p t m : ByteArray} {n : Int} {lp lt ft nm : Bool}
theorem cmd_check.bad1 (pb : Bool) (h1 : (if c = 16 then p.toList == ([] : List UInt8) else lp) = pb) (h2 : (o7 && (pb && ft)) = false) : (if cmd_check.ok (o1, o2, o3, o4, o5, o6, o7) c p t m n lp lt ft nm = true then none else some 190) = (some 190 : Option Int) := by
  unfold cmd_check.ok; subst h1; dsimp only
  cases o7
  · rfl
  · revert h2
    generalize (if c = 16 then p.toList == ([] : List UInt8) else lp) = b
    cases b
    · intro _; rfl
    · cases ft
      · intro _; rfl
      · intro h; cases h
theorem cmd_check.bad2 (h2 : (if o1 = true then lt else t.toList == ([] : List UInt8)) = false) : (if cmd_check.ok (o1, o2, o3, o4, o5, o6, o7) c p t m n lp lt ft nm = true then none else some 190) = (some 190 : Option Int) := by
  unfold cmd_check.ok; dsimp only
  rw [h2]; simp
theorem cmd_check.bad3 (h2 : (if o2 = true then nm else m.toList == ([] : List UInt8)) = false) : (if cmd_check.ok (o1, o2, o3, o4, o5, o6, o7) c p t m n lp lt ft nm = true then none else some 190) = (some 190 : Option Int) := by
  unfold cmd_check.ok; dsimp only
  rw [h2]; simp
theorem cmd_check.good (pb : Bool) (h1 : (if c = 16 then p.toList == ([] : List UInt8) else lp) = pb) (h2 : (o7 && (pb && ft)) = true) (h3 : (if o1 = true then lt else t.toList == ([] : List UInt8)) = true) (h4 : (if o2 = true then nm else m.toList == ([] : List UInt8)) = true) :
    (if cmd_check.ok (o1, o2, o3, o4, o5, o6, o7) c p t m n lp lt ft nm = true then none else some 190) = (if o5 ≤ n ∧ n ≤ o6 then (none : Option Int) else some 190) := by
  unfold cmd_check.ok; dsimp only
  rw [h1, h3, h4]
  revert h2
  cases o7
  · intro h; cases h
  · cases pb
    · intro h; cases h
    · cases ft
      · intro h; cases h
      · intro _; simp
end
structure cmd_check.CK (w W : World) (g : Nat) (cc cf : Array Value) : Prop where
  hc : W.heap[w.heap.size]? = some (.cells cc 23 (0, 0))
  hf : W.heap[g]? = some (.cells cf 77 (0, 0))
  hB : Below w.heap.size w W
theorem cmd_check.CK.step {w W W' : World} {g : Nat} {cc cf : Array Value} (h : cmd_check.CK w W g cc cf) (hb : Below W.heap.size W W') : cmd_check.CK w W' g cc cf :=
  ⟨blk_below h.hc hb, blk_below h.hf hb, below_step h.hB hb⟩
theorem cmd_check.CK.start {w w1 : World} {cc cf : Array Value} (hc : w1.heap[w.heap.size]? = some (.cells cc 23 (0, 0))) (hB : Below w.heap.size w w1) : cmd_check.CK w (w1.alloc (.cells cf 77)) w1.heap.size cc cf :=
  ⟨blk_alloc hc _, blk_new _ _, hB.alloc hB.size _⟩
set_option maxHeartbeats 16000000 in
set_option maxRecDepth 100000 in
theorem cmd_check.calls (k : Nat) (a0_0 : Int) (a0_1 : ByteArray) (a0_2 : ByteArray) (a0_3 : ByteArray) (a0_4 : Int) (a0_5 : ByteArray) (r : Option Int) (w : World) (hT : Tabs w) (h : cmd_check.f k a0_0 a0_1 a0_2 a0_3 a0_4 a0_5 = some r) :
    Calls Tryz.prog 28 #[.agg #[.int .i64 a0_0, .string a0_1, .string a0_2, .string a0_3, .int .i64 a0_4, .string a0_5]] w fun e w' => e = .returned (errW r) ∧ Below w.heap.size w w' := by
  unfold cmd_check.f at h
  obtain ⟨⟨o1, o2, o3, o4, o5, o6, o7⟩, ho, h1⟩ := Option.bind_eq_some_iff.1 h
  obtain ⟨lp, hlp, h2⟩ := Option.bind_eq_some_iff.1 h1
  obtain ⟨lt, hlt, h3⟩ := Option.bind_eq_some_iff.1 h2
  obtain ⟨ft, hft, h4⟩ := Option.bind_eq_some_iff.1 h3
  obtain ⟨nm, hnm, h5⟩ := Option.bind_eq_some_iff.1 h4
  have H := Aside0.mk (Option.some.inj h5)
  have HO := Aside0.mk (fun W => cmd_of.calls k a0_0 o1 o2 o3 o4 o5 o6 o7 W ho)
  have HLP := Aside0.mk (fun W hW => cmd_loose.calls k a0_1 lp W hW hlp)
  have HLT := Aside0.mk (fun W hW => cmd_loose.calls k a0_2 lt W hW hlt)
  have HFT := Aside0.mk (fun W => cmd_fits.calls a0_0 a0_1 a0_2 a0_3 a0_4 a0_5 ft W hft)
  have HNM := Aside0.mk (fun W => path_Name.calls a0_3 nm W hnm)
  have hw0 := Aside0.mk (show Below w.heap.size w (w.alloc (.cells #[.int .i64 a0_0, .string a0_1, .string a0_2, .string a0_3, .int .i64 a0_4, .string a0_5] 23)) from (Below.refl _ w).alloc (Nat.le_refl _) _)
  have hk0 := Aside0.mk (show (w.alloc (.cells #[.int .i64 a0_0, .string a0_1, .string a0_2, .string a0_3, .int .i64 a0_4, .string a0_5] 23)).heap[w.heap.size]? = some (.cells #[.int .i64 a0_0, .string a0_1, .string a0_2, .string a0_3, .int .i64 a0_4, .string a0_5] 23 (0, 0)) by simpa using heap_alloc_new w _)
  clear h h1 h2 h3 h4 h5 ho hlp hlt hft hnm
  go_enter Tryz.func28, Tryz.ntmps28
  go_upto_region 2 with (go_at_call 34; refine (HO.out _).mono ?_; rintro e w1 ⟨rfl, hb⟩; have hB1 := Aside0.mk (below_step hw0.out hb); have hk1 := Aside0.mk (blk_below hk0.out hb); clear hb)
  have ck := Aside0.mk (cmd_check.CK.start (cf := #[.bool o1, .bool o2, .bool o3, .bool o4, .int .i64 o5, .int .i64 o6]) hk1.out hB1.out)
  generalize w1.heap.size = g at ck ⊢
  generalize (w1.alloc (.cells #[.bool o1, .bool o2, .bool o3, .bool o4, .int .i64 o5, .int .i64 o6] 77)) = w2 at ck ⊢
  clear hB1 hk1 hw0 hk0 HO
  have xc0 := show _ = some (Value.int .i64 a0_0) from (blk_cell ck.out.hc 0).trans rfl
  have xc1 := show _ = some (Value.string a0_1) from (blk_cell ck.out.hc 1).trans rfl
  have xc2 := show _ = some (Value.string a0_2) from (blk_cell ck.out.hc 2).trans rfl
  have xc3 := show _ = some (Value.string a0_3) from (blk_cell ck.out.hc 3).trans rfl
  have xc4 := show _ = some (Value.int .i64 a0_4) from (blk_cell ck.out.hc 4).trans rfl
  have xc5 := show _ = some (Value.string a0_5) from (blk_cell ck.out.hc 5).trans rfl
  have xf0 := show _ = some (Value.bool _) from (blk_cell ck.out.hf 0).trans rfl
  have xf1 := show _ = some (Value.bool _) from (blk_cell ck.out.hf 1).trans rfl
  have xf4 := show _ = some (Value.int .i64 o5) from (blk_cell ck.out.hf 4).trans rfl
  have xf5 := show _ = some (Value.int .i64 o6) from (blk_cell ck.out.hf 5).trans rfl
  go_upto_if 17 with (fail)
  go_cut [5] (fun v5 wc => v5 = .bool (if a0_0 = 16 then a0_1.toList == ([] : List UInt8) else lp) ∧ Aside0 (cmd_check.CK w wc g #[.int .i64 a0_0, .string a0_1, .string a0_2, .string a0_3, .int .i64 a0_4, .string a0_5] #[.bool o1, .bool o2, .bool o3, .bool o4, .int .i64 o5, .int .i64 o6]))
  case first =>
    by_cases hc : a0_0 = 16
    · have h1 : (a0_0 != 16) = false := bne_eq_false_iff_eq.mpr hc
      have hv := Lib.hid hc
      clear hc
      go_wp2
      go_meet
      case rel => exact ⟨by rw [if_pos hv.out, cmd_check.bE], ck⟩
    · have h1 : (a0_0 != 16) = true := bne_iff_ne.mpr hc
      have hv := Lib.hid hc
      clear hc
      go_wp2_with (go_at_call 46; (with_reducible refine (HLP.out _ (Tabs.on hT ck.out.hB)).mono ?_); rintro e w' ⟨rfl, hb⟩; have ck2 := Aside0.mk (ck.out.step hb); clear xc0 xc1 xc2 xc3 xc4 xc5 xf0 xf1 xf4 xf5 hb ck; have ck := ck2; clear ck2; have xc0 := show _ = some (Value.int .i64 a0_0) from (blk_cell ck.out.hc 0).trans rfl; have xc1 := show _ = some (Value.string a0_1) from (blk_cell ck.out.hc 1).trans rfl; have xc2 := show _ = some (Value.string a0_2) from (blk_cell ck.out.hc 2).trans rfl; have xc3 := show _ = some (Value.string a0_3) from (blk_cell ck.out.hc 3).trans rfl; have xc4 := show _ = some (Value.int .i64 a0_4) from (blk_cell ck.out.hc 4).trans rfl; have xc5 := show _ = some (Value.string a0_5) from (blk_cell ck.out.hc 5).trans rfl; have xf0 := show _ = some (Value.bool _) from (blk_cell ck.out.hf 0).trans rfl; have xf1 := show _ = some (Value.bool _) from (blk_cell ck.out.hf 1).trans rfl; have xf4 := show _ = some (Value.int .i64 o5) from (blk_cell ck.out.hf 4).trans rfl; have xf5 := show _ = some (Value.int .i64 o6) from (blk_cell ck.out.hf 5).trans rfl)
      go_meet
      case rel => exact ⟨by rw [if_neg hv.out], ck⟩
  case rest =>
    clear ck xc0 xc1 xc2 xc3 xc4 xc5 xf0 xf1 xf4 xf5
    obtain ⟨rfl, ck⟩ := hcut
    generalize hpb : (if a0_0 = 16 then a0_1.toList == ([] : List UInt8) else lp) = pb at *
    have HPB := Aside0.mk hpb
    clear hpb
    have xc0 := show _ = some (Value.int .i64 a0_0) from (blk_cell ck.out.hc 0).trans rfl
    have xc1 := show _ = some (Value.string a0_1) from (blk_cell ck.out.hc 1).trans rfl
    have xc2 := show _ = some (Value.string a0_2) from (blk_cell ck.out.hc 2).trans rfl
    have xc3 := show _ = some (Value.string a0_3) from (blk_cell ck.out.hc 3).trans rfl
    have xc4 := show _ = some (Value.int .i64 a0_4) from (blk_cell ck.out.hc 4).trans rfl
    have xc5 := show _ = some (Value.string a0_5) from (blk_cell ck.out.hc 5).trans rfl
    have xf0 := show _ = some (Value.bool _) from (blk_cell ck.out.hf 0).trans rfl
    have xf1 := show _ = some (Value.bool _) from (blk_cell ck.out.hf 1).trans rfl
    have xf4 := show _ = some (Value.int .i64 o5) from (blk_cell ck.out.hf 4).trans rfl
    have xf5 := show _ = some (Value.int .i64 o6) from (blk_cell ck.out.hf 5).trans rfl
    go_upto_if 21 with (fail)
    go_cut [21] (fun v21 wc => v21 = .bool (!(o7 && (pb && ft))) ∧ Aside0 (cmd_check.CK w wc g #[.int .i64 a0_0, .string a0_1, .string a0_2, .string a0_3, .int .i64 a0_4, .string a0_5] #[.bool o1, .bool o2, .bool o3, .bool o4, .int .i64 o5, .int .i64 o6]))
    case first =>
      cases o7
      · go_wp2
        go_meet
        case rel => exact ⟨rfl, ck⟩
      · cases pb
        · go_wp2
          go_meet
          case rel => exact ⟨rfl, ck⟩
        · go_wp2_with (go_at_call 47; (with_reducible refine (HFT.out _).mono ?_); rintro e w' ⟨rfl, hb⟩; have ck2 := Aside0.mk (ck.out.step hb); clear xc0 xc1 xc2 xc3 xc4 xc5 xf0 xf1 xf4 xf5 hb ck; have ck := ck2; clear ck2; have xc0 := show _ = some (Value.int .i64 a0_0) from (blk_cell ck.out.hc 0).trans rfl; have xc1 := show _ = some (Value.string a0_1) from (blk_cell ck.out.hc 1).trans rfl; have xc2 := show _ = some (Value.string a0_2) from (blk_cell ck.out.hc 2).trans rfl; have xc3 := show _ = some (Value.string a0_3) from (blk_cell ck.out.hc 3).trans rfl; have xc4 := show _ = some (Value.int .i64 a0_4) from (blk_cell ck.out.hc 4).trans rfl; have xc5 := show _ = some (Value.string a0_5) from (blk_cell ck.out.hc 5).trans rfl; have xf0 := show _ = some (Value.bool _) from (blk_cell ck.out.hf 0).trans rfl; have xf1 := show _ = some (Value.bool _) from (blk_cell ck.out.hf 1).trans rfl; have xf4 := show _ = some (Value.int .i64 o5) from (blk_cell ck.out.hf 4).trans rfl; have xf5 := show _ = some (Value.int .i64 o6) from (blk_cell ck.out.hf 5).trans rfl)
          go_meet
          case rel => exact ⟨rfl, ck⟩
    case rest =>
      clear ck xc0 xc1 xc2 xc3 xc4 xc5 xf0 xf1 xf4 xf5
      obtain ⟨rfl, ck⟩ := hcut
      generalize hxa : (o7 && (pb && ft)) = xa at *
      have HXA := Aside0.mk hxa
      clear hxa
      have xc0 := show _ = some (Value.int .i64 a0_0) from (blk_cell ck.out.hc 0).trans rfl
      have xc1 := show _ = some (Value.string a0_1) from (blk_cell ck.out.hc 1).trans rfl
      have xc2 := show _ = some (Value.string a0_2) from (blk_cell ck.out.hc 2).trans rfl
      have xc3 := show _ = some (Value.string a0_3) from (blk_cell ck.out.hc 3).trans rfl
      have xc4 := show _ = some (Value.int .i64 a0_4) from (blk_cell ck.out.hc 4).trans rfl
      have xc5 := show _ = some (Value.string a0_5) from (blk_cell ck.out.hc 5).trans rfl
      have xf0 := show _ = some (Value.bool _) from (blk_cell ck.out.hf 0).trans rfl
      have xf1 := show _ = some (Value.bool _) from (blk_cell ck.out.hf 1).trans rfl
      have xf4 := show _ = some (Value.int .i64 o5) from (blk_cell ck.out.hf 4).trans rfl
      have xf5 := show _ = some (Value.int .i64 o6) from (blk_cell ck.out.hf 5).trans rfl
      cases xa
      · go_wp2
        go_ret
        exact ⟨by rw [← H.out, cmd_check.bad1 _ HPB.out HXA.out]; first | rfl | (simp [errW_none, errW_some]; done) | (simp [errW_none, errW_some] <;> rfl), ck.out.hB⟩
      · go_upto_region 8 with (fail)
        go_cut [29] (fun v29 wc => v29 = .bool (o1 && !lt) ∧ Aside0 (cmd_check.CK w wc g #[.int .i64 a0_0, .string a0_1, .string a0_2, .string a0_3, .int .i64 a0_4, .string a0_5] #[.bool o1, .bool o2, .bool o3, .bool o4, .int .i64 o5, .int .i64 o6]))
        case first =>
          cases o1
          · go_wp2
            go_meet
            case rel => exact ⟨rfl, ck⟩
          · go_wp2_with (go_at_call 46; (with_reducible refine (HLT.out _ (Tabs.on hT ck.out.hB)).mono ?_); rintro e w' ⟨rfl, hb⟩; have ck2 := Aside0.mk (ck.out.step hb); clear xc0 xc1 xc2 xc3 xc4 xc5 xf0 xf1 xf4 xf5 hb ck; have ck := ck2; clear ck2; have xc0 := show _ = some (Value.int .i64 a0_0) from (blk_cell ck.out.hc 0).trans rfl; have xc1 := show _ = some (Value.string a0_1) from (blk_cell ck.out.hc 1).trans rfl; have xc2 := show _ = some (Value.string a0_2) from (blk_cell ck.out.hc 2).trans rfl; have xc3 := show _ = some (Value.string a0_3) from (blk_cell ck.out.hc 3).trans rfl; have xc4 := show _ = some (Value.int .i64 a0_4) from (blk_cell ck.out.hc 4).trans rfl; have xc5 := show _ = some (Value.string a0_5) from (blk_cell ck.out.hc 5).trans rfl; have xf0 := show _ = some (Value.bool _) from (blk_cell ck.out.hf 0).trans rfl; have xf1 := show _ = some (Value.bool _) from (blk_cell ck.out.hf 1).trans rfl; have xf4 := show _ = some (Value.int .i64 o5) from (blk_cell ck.out.hf 4).trans rfl; have xf5 := show _ = some (Value.int .i64 o6) from (blk_cell ck.out.hf 5).trans rfl)
            go_meet
            case rel => exact ⟨rfl, ck⟩
        case rest =>
          clear ck xc0 xc1 xc2 xc3 xc4 xc5 xf0 xf1 xf4 xf5
          obtain ⟨rfl, ck⟩ := hcut
          have xc0 := show _ = some (Value.int .i64 a0_0) from (blk_cell ck.out.hc 0).trans rfl
          have xc1 := show _ = some (Value.string a0_1) from (blk_cell ck.out.hc 1).trans rfl
          have xc2 := show _ = some (Value.string a0_2) from (blk_cell ck.out.hc 2).trans rfl
          have xc3 := show _ = some (Value.string a0_3) from (blk_cell ck.out.hc 3).trans rfl
          have xc4 := show _ = some (Value.int .i64 a0_4) from (blk_cell ck.out.hc 4).trans rfl
          have xc5 := show _ = some (Value.string a0_5) from (blk_cell ck.out.hc 5).trans rfl
          have xf0 := show _ = some (Value.bool _) from (blk_cell ck.out.hf 0).trans rfl
          have xf1 := show _ = some (Value.bool _) from (blk_cell ck.out.hf 1).trans rfl
          have xf4 := show _ = some (Value.int .i64 o5) from (blk_cell ck.out.hf 4).trans rfl
          have xf5 := show _ = some (Value.int .i64 o6) from (blk_cell ck.out.hf 5).trans rfl
          go_upto_if 29 with (fail)
          go_cut [29] (fun v29 wc => v29 = .bool (!(if o1 = true then lt else a0_2.toList == ([] : List UInt8))) ∧ Aside0 (cmd_check.CK w wc g #[.int .i64 a0_0, .string a0_1, .string a0_2, .string a0_3, .int .i64 a0_4, .string a0_5] #[.bool o1, .bool o2, .bool o3, .bool o4, .int .i64 o5, .int .i64 o6]))
          case first =>
            cases o1
            · try simp only [Bool.false_and, Bool.true_and, Bool.not_true, Bool.not_false]
              go_wp2
              go_meet
              case rel => exact ⟨by simp only [Bool.false_eq_true, if_false, cmd_check.bE], ck⟩
            · cases lt
              · try simp only [Bool.false_and, Bool.true_and, Bool.not_true, Bool.not_false]
                go_wp2
                go_meet
                case rel => exact ⟨rfl, ck⟩
              · try simp only [Bool.false_and, Bool.true_and, Bool.not_true, Bool.not_false]
                go_wp2
                go_meet
                case rel => exact ⟨rfl, ck⟩
          case rest =>
            clear ck xc0 xc1 xc2 xc3 xc4 xc5 xf0 xf1 xf4 xf5
            obtain ⟨rfl, ck⟩ := hcut
            generalize hxb : (if o1 = true then lt else a0_2.toList == ([] : List UInt8)) = xb at *
            have HXB := Aside0.mk hxb
            clear hxb
            have xc0 := show _ = some (Value.int .i64 a0_0) from (blk_cell ck.out.hc 0).trans rfl
            have xc1 := show _ = some (Value.string a0_1) from (blk_cell ck.out.hc 1).trans rfl
            have xc2 := show _ = some (Value.string a0_2) from (blk_cell ck.out.hc 2).trans rfl
            have xc3 := show _ = some (Value.string a0_3) from (blk_cell ck.out.hc 3).trans rfl
            have xc4 := show _ = some (Value.int .i64 a0_4) from (blk_cell ck.out.hc 4).trans rfl
            have xc5 := show _ = some (Value.string a0_5) from (blk_cell ck.out.hc 5).trans rfl
            have xf0 := show _ = some (Value.bool _) from (blk_cell ck.out.hf 0).trans rfl
            have xf1 := show _ = some (Value.bool _) from (blk_cell ck.out.hf 1).trans rfl
            have xf4 := show _ = some (Value.int .i64 o5) from (blk_cell ck.out.hf 4).trans rfl
            have xf5 := show _ = some (Value.int .i64 o6) from (blk_cell ck.out.hf 5).trans rfl
            cases xb
            · go_wp2
              go_ret
              exact ⟨by rw [← H.out, cmd_check.bad2 HXB.out]; first | rfl | (simp [errW_none, errW_some]; done) | (simp [errW_none, errW_some] <;> rfl), ck.out.hB⟩
            · go_upto_region 10 with (fail)
              go_cut [46] (fun v46 wc => v46 = .bool (o2 && !nm) ∧ Aside0 (cmd_check.CK w wc g #[.int .i64 a0_0, .string a0_1, .string a0_2, .string a0_3, .int .i64 a0_4, .string a0_5] #[.bool o1, .bool o2, .bool o3, .bool o4, .int .i64 o5, .int .i64 o6]))
              case first =>
                cases o2
                · go_wp2
                  go_meet
                  case rel => exact ⟨rfl, ck⟩
                · go_wp2_with (go_at_call 48; (with_reducible refine (HNM.out _).mono ?_); rintro e w' ⟨rfl, hb⟩; have ck2 := Aside0.mk (ck.out.step hb); clear xc0 xc1 xc2 xc3 xc4 xc5 xf0 xf1 xf4 xf5 hb ck; have ck := ck2; clear ck2; have xc0 := show _ = some (Value.int .i64 a0_0) from (blk_cell ck.out.hc 0).trans rfl; have xc1 := show _ = some (Value.string a0_1) from (blk_cell ck.out.hc 1).trans rfl; have xc2 := show _ = some (Value.string a0_2) from (blk_cell ck.out.hc 2).trans rfl; have xc3 := show _ = some (Value.string a0_3) from (blk_cell ck.out.hc 3).trans rfl; have xc4 := show _ = some (Value.int .i64 a0_4) from (blk_cell ck.out.hc 4).trans rfl; have xc5 := show _ = some (Value.string a0_5) from (blk_cell ck.out.hc 5).trans rfl; have xf0 := show _ = some (Value.bool _) from (blk_cell ck.out.hf 0).trans rfl; have xf1 := show _ = some (Value.bool _) from (blk_cell ck.out.hf 1).trans rfl; have xf4 := show _ = some (Value.int .i64 o5) from (blk_cell ck.out.hf 4).trans rfl; have xf5 := show _ = some (Value.int .i64 o6) from (blk_cell ck.out.hf 5).trans rfl)
                  go_meet
                  case rel => exact ⟨rfl, ck⟩
              case rest =>
                clear ck xc0 xc1 xc2 xc3 xc4 xc5 xf0 xf1 xf4 xf5
                obtain ⟨rfl, ck⟩ := hcut
                have xc0 := show _ = some (Value.int .i64 a0_0) from (blk_cell ck.out.hc 0).trans rfl
                have xc1 := show _ = some (Value.string a0_1) from (blk_cell ck.out.hc 1).trans rfl
                have xc2 := show _ = some (Value.string a0_2) from (blk_cell ck.out.hc 2).trans rfl
                have xc3 := show _ = some (Value.string a0_3) from (blk_cell ck.out.hc 3).trans rfl
                have xc4 := show _ = some (Value.int .i64 a0_4) from (blk_cell ck.out.hc 4).trans rfl
                have xc5 := show _ = some (Value.string a0_5) from (blk_cell ck.out.hc 5).trans rfl
                have xf0 := show _ = some (Value.bool _) from (blk_cell ck.out.hf 0).trans rfl
                have xf1 := show _ = some (Value.bool _) from (blk_cell ck.out.hf 1).trans rfl
                have xf4 := show _ = some (Value.int .i64 o5) from (blk_cell ck.out.hf 4).trans rfl
                have xf5 := show _ = some (Value.int .i64 o6) from (blk_cell ck.out.hf 5).trans rfl
                go_upto_if 46 with (fail)
                go_cut [46] (fun v46 wc => v46 = .bool (!(if o2 = true then nm else a0_3.toList == ([] : List UInt8))) ∧ Aside0 (cmd_check.CK w wc g #[.int .i64 a0_0, .string a0_1, .string a0_2, .string a0_3, .int .i64 a0_4, .string a0_5] #[.bool o1, .bool o2, .bool o3, .bool o4, .int .i64 o5, .int .i64 o6]))
                case first =>
                  cases o2
                  · try simp only [Bool.false_and, Bool.true_and, Bool.not_true, Bool.not_false]
                    go_wp2
                    go_meet
                    case rel => exact ⟨by simp only [Bool.false_eq_true, if_false, cmd_check.bE], ck⟩
                  · cases nm
                    · try simp only [Bool.false_and, Bool.true_and, Bool.not_true, Bool.not_false]
                      go_wp2
                      go_meet
                      case rel => exact ⟨rfl, ck⟩
                    · try simp only [Bool.false_and, Bool.true_and, Bool.not_true, Bool.not_false]
                      go_wp2
                      go_meet
                      case rel => exact ⟨rfl, ck⟩
                case rest =>
                  clear ck xc0 xc1 xc2 xc3 xc4 xc5 xf0 xf1 xf4 xf5
                  obtain ⟨rfl, ck⟩ := hcut
                  generalize hxc : (if o2 = true then nm else a0_3.toList == ([] : List UInt8)) = xc at *
                  have HXC := Aside0.mk hxc
                  clear hxc
                  have xc0 := show _ = some (Value.int .i64 a0_0) from (blk_cell ck.out.hc 0).trans rfl
                  have xc1 := show _ = some (Value.string a0_1) from (blk_cell ck.out.hc 1).trans rfl
                  have xc2 := show _ = some (Value.string a0_2) from (blk_cell ck.out.hc 2).trans rfl
                  have xc3 := show _ = some (Value.string a0_3) from (blk_cell ck.out.hc 3).trans rfl
                  have xc4 := show _ = some (Value.int .i64 a0_4) from (blk_cell ck.out.hc 4).trans rfl
                  have xc5 := show _ = some (Value.string a0_5) from (blk_cell ck.out.hc 5).trans rfl
                  have xf0 := show _ = some (Value.bool _) from (blk_cell ck.out.hf 0).trans rfl
                  have xf1 := show _ = some (Value.bool _) from (blk_cell ck.out.hf 1).trans rfl
                  have xf4 := show _ = some (Value.int .i64 o5) from (blk_cell ck.out.hf 4).trans rfl
                  have xf5 := show _ = some (Value.int .i64 o6) from (blk_cell ck.out.hf 5).trans rfl
                  cases xc
                  · go_wp2
                    go_ret
                    exact ⟨by rw [← H.out, cmd_check.bad3 HXC.out]; first | rfl | (simp [errW_none, errW_some]; done) | (simp [errW_none, errW_some] <;> rfl), ck.out.hB⟩
                  · have HG := Aside0.mk (cmd_check.good (o3 := o3) (o4 := o4) (o5 := o5) (o6 := o6) (n := a0_4) (c := a0_0) _ HPB.out HXA.out HXB.out HXC.out)
                    clear HPB HXA HXB HXC
                    by_cases h1 : a0_4 < o5
                    · have d1 : decide (a0_4 < o5) = true := decide_eq_true h1
                      have hv := Lib.hid h1
                      clear h1
                      go_wp2
                      go_ret
                      exact ⟨by rw [← H.out, HG.out, if_neg (by have := hv.out; omega)]; first | rfl | (simp [errW_none, errW_some]; done) | (simp [errW_none, errW_some] <;> rfl), ck.out.hB⟩
                    · have d1 : decide (a0_4 < o5) = false := decide_eq_false h1
                      by_cases h2 : a0_4 > o6
                      · have d2 : decide (a0_4 > o6) = true := decide_eq_true h2
                        have hv := Lib.hid h2
                        clear h1 h2
                        go_wp2
                        go_ret
                        exact ⟨by rw [← H.out, HG.out, if_neg (by have := hv.out; omega)]; first | rfl | (simp [errW_none, errW_some]; done) | (simp [errW_none, errW_some] <;> rfl), ck.out.hB⟩
                      · have d2 : decide (a0_4 > o6) = false := decide_eq_false h2
                        have hv := Lib.hid (And.intro h1 h2)
                        clear h1 h2
                        go_wp2
                        go_ret
                        exact ⟨by rw [← H.out, HG.out, if_pos (by have := hv.out; omega)]; first | rfl | (simp [errW_none, errW_some]; done) | (simp [errW_none, errW_some] <;> rfl), ck.out.hB⟩


/-! ### pack_Short: function 38, by hand -/
def pack_Short.f (a0 : Int) : Option ByteArray := if 0 ≤ a0 ∧ a0 < 18446744073709551616 then some (strOfNums (shortNums 9 a0)) else none
set_option maxHeartbeats 4000000 in
set_option maxRecDepth 100000 in
theorem pack_Short.calls (a0 : Int) (r : ByteArray) (w : World) (h : pack_Short.f a0 = some r) :
    Calls Tryz.prog 38 #[.int .u64 a0] w fun e w' => e = .returned (.string r) ∧ Below w.heap.size w w' := by
  unfold pack_Short.f at h
  split at h
  case isFalse => cases h
  case isTrue hh =>
  obtain ⟨h0, h1⟩ := hh
  obtain rfl := Option.some.inj h
  clear h
  go_enter Tryz.func38, Tryz.ntmps38
  go_wp2
  go_rounds 11
  all_goals
    rw [conv_arr (P := Tryz.prog) w 61 9 5 108 Tryz.underlying61 Tryz.underlying5 Tryz.underlying9 _ _ _ (by simp) rfl]
    go_wp2
    go_ret
    refine ⟨ret_str ?_, (Below.refl _ _).alloc (Nat.le_refl _) _⟩
    simp only [List.map, unInt, List.take, shortNums, List.take_succ_cons, List.take_zero]
    congr 1
    repeat' first | rw [if_pos (by omega)] | rw [if_neg (by omega)]
    repeat (first | rw [or128 _ (by omega) (by omega)] | rw [Int.emod_emod_of_dvd _ (by decide)])


/-! ### pack_Text: function 36, by hand -/
def pack_Text.f (a0 : ByteArray) : Option ByteArray := if a0.size ≤ 9223372036854775000 then some (strOfNums (shortNums 9 a0.size) ++ a0) else none
set_option maxHeartbeats 1000000 in
set_option maxRecDepth 100000 in
theorem pack_Text.calls (a0 : ByteArray) (r : ByteArray) (w : World) (h : pack_Text.f a0 = some r) :
    Calls Tryz.prog 36 #[.string a0] w fun e w' => e = .returned (.string r) ∧ Below w.heap.size w w' := by
  unfold pack_Text.f at h
  split at h
  case isFalse => cases h
  case isTrue hh =>
  obtain rfl := Option.some.inj h
  clear h
  have hs := Aside0.mk (shortNums_len 9 a0.size)
  have hf : pack_Short.f a0.size = some (strOfNums (shortNums 9 a0.size)) := by unfold pack_Short.f; rw [if_pos ⟨by omega, by omega⟩]
  have HF := Aside0.mk hf
  clear hf
  generalize hsn : strOfNums (shortNums 9 a0.size) = sn at *
  have hz : sn.size ≤ 10 := by rw [← hsn, strOfNums_size]; exact hs.out
  have HSN := Aside0.mk hsn
  clear hsn
  have c3b0 : (sn.size + a0.size ≤ 9223372036854775807) = True := eq_true (by omega)
  have c3b1 : decide (sn.size + a0.size ≤ 9223372036854775807) = true := decide_eq_true (by omega)
  have c3b2 : (9223372036854775807 < sn.size + a0.size) = False := eq_false (by omega)
  go_enter Tryz.func36, Tryz.ntmps36
  go_wp2_with (go_at_call 38; refine (pack_Short.calls _ _ _ HF.out).mono ?_; rintro e w' ⟨rfl, hb⟩)
  go_ret
  exact ⟨rfl, by assumption⟩


/-! ### pack_Fixed: function 37, by hand -/
def pack_Fixed.f (a0 : Int) : Option ByteArray := if 0 ≤ a0 ∧ a0 < 18446744073709551616 then some (strOfNums (fixedNums a0)) else none
set_option maxHeartbeats 800000 in
set_option maxRecDepth 100000 in
theorem pack_Fixed.calls (a0 : Int) (r : ByteArray) (w : World) (h : pack_Fixed.f a0 = some r) :
    Calls Tryz.prog 37 #[.int .u64 a0] w fun e w' => e = .returned (.string r) ∧ Below w.heap.size w w' := by
  unfold pack_Fixed.f at h
  split at h
  case isFalse => cases h
  case isTrue hh =>
  obtain ⟨h0, h1⟩ := hh
  obtain rfl := Option.some.inj h
  clear h
  have hcv := conv_new (P := Tryz.prog) w 61 9 5 107 Tryz.underlying61 Tryz.underlying5 Tryz.underlying9 (fixedNums a0) 8 8 (by simp [fixedNums])
  simp only [fixedNums, List.map, List.take] at hcv
  go_enter Tryz.func37, Tryz.ntmps37
  go_wp2
  go_rounds 9
  go_ret
  exact ⟨by simp [fixedNums], (Below.refl _ _).alloc (Nat.le_refl _) _⟩


end Go.Proofs.YtofdpgcnconibaaGreatDoor.PA
