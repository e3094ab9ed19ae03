-- WRITTEN BY a program of this session (pp.sh)
import Derived.Test.YtofdpgcnconibaaGreatDoorPAx0
import Derived.Test.YtofdpgcnconibaaGreatDoorPAx18
import Derived.Test.YtofdpgcnconibaaGreatDoorPAx19
import Derived.Test.YtofdpgcnconibaaGreatDoorPAx31
set_option linter.unusedVariables false
set_option linter.unusedSimpArgs false
namespace Go.Proofs.YtofdpgcnconibaaGreatDoor.PA
open Go.RowKit Go.Proofs.YtofdpgcnconibaaGreatDoorW.PrintWords Go.Proofs.YtofdpgcnconibaaGreatDoorW.PrintLast Go.Proofs.YtofdpgcnconibaaGreatDoorW.PrintMore Go.Proofs.YtofdpgcnconibaaGreatDoor.Plain
attribute [local go_sem] max2_int min2_int max_two min_two max_three min_three max_four min_four binOp_leq_s binOp_gtr_s binOp_geq_s lit_byte   -- for this text's walks alone
set_option linter.unusedVariables false
set_option linter.unusedSimpArgs false

/-! ### coppiceref19_body: function 31, by hand -/
/-- A text that is read, if it is asked for. -/
def rrT (k : Nat) (has : Bool) (R : ByteArray) (e : Int) : Option (ByteArray × ByteArray × Int) := if has = true then coppiceref02_Reader_Text.f k R e 2000 else some (⟨#[]⟩, R, e)
/-- A number that is read, if it is asked for. -/
def rrN (k : Nat) (fx sh : Bool) (R : ByteArray) (e : Int) : Option (Int × ByteArray × Int) := if fx = true then coppiceref02_Reader_Fixed.f k R e else if sh = true then coppiceref02_Reader_Short.f k R e else some (0, R, e)
def noRec (e : Int) : Int × ByteArray × ByteArray × ByteArray × Int × ByteArray × Int := (0, ⟨#[]⟩, ⟨#[]⟩, ⟨#[]⟩, 0, ⟨#[]⟩, e)
/-- coppiceref19.body. -/
def coppiceref19_body.f (k : Nat) (a0 : ByteArray) : Option (Int × ByteArray × ByteArray × ByteArray × Int × ByteArray × Int) :=
  (coppiceref02_Reader_Byte.f a0 0).bind fun q2 =>
  if 0 ≤ q2.1 ∧ q2.1 < 256 then
    (coppiceref19_Has.f q2.1).bind fun o =>
    (rrT k (q2.1 != 16) q2.2.1 q2.2.2).bind fun q3 =>
    (rrT k o.1 q3.2.1 q3.2.2).bind fun q4 =>
    (rrT k o.2.1 q4.2.1 q4.2.2).bind fun q5 =>
    (rrN k (o.2.2.1 && (q2.1 == 15)) o.2.2.1 q5.2.1 q5.2.2).bind fun q6 =>
    if (o.2.2.1 && (q2.1 != 15)) = true ∧ q6.1 > 4611686018427387904 then some (noRec 190) else
    (rrT k o.2.2.2 q6.2.1 q6.2.2).bind fun q7 =>
    (coppiceref02_Reader_End.f q7.2.1 q7.2.2).bind fun q8 =>
    if q8.1 = 0 then
      (coppiceref19_Right.f k q2.1 q3.1 q4.1 q5.1 (wrap64 q6.1) q7.1).bind fun r =>
        if r = true then some (q2.1, q3.1, q4.1, q5.1, wrap64 q6.1, q7.1, 0) else some (noRec 190)
    else some (noRec 190)
  else none
theorem isR_mk {w0 W : World} {g : Nat} {s : ByteArray} {e : Int} (h1 : W.heap[g]? = some (.cells #[.string s, .int .i64 e] 69)) (h2 : w0.heap.size ≤ g) : IsS69 w0 W g s e := And.intro h1 h2

set_option maxHeartbeats 8000000 in
set_option maxRecDepth 100000 in
theorem coppiceref19_body.main (k : Nat) (a0 : ByteArray) (w : World) (b : Int) (R2 : ByteArray) (e2 : Int) (HBy : Aside0 (coppiceref02_Reader_Byte.f a0 0 = some (b, R2, e2))) (hb0 : 0 ≤ b) (hb1 : b < 256) (o1 o2 o4 o3 : Bool) (HH : Aside0 (coppiceref19_Has.f b = some (o1, o2, o4, o3)))
    (h0 : Bool) (hh0 : (b != 16) = h0) (p : ByteArray) (R3 : ByteArray) (e3 : Int) (HP : Aside0 (rrT k h0 R2 e2 = some (p, R3, e3))) (tx : ByteArray) (R4 : ByteArray) (e4 : Int) (HTo : Aside0 (rrT k o1 R3 e3 = some (tx, R4, e4))) (nm : ByteArray) (R5 : ByteArray) (e5 : Int) (HM : Aside0 (rrT k o2 R4 e4 = some (nm, R5, e5)))
    (x : Int) (R6 : ByteArray) (e6 : Int) (HN : Aside0 (rrN k (o4 && (b == 15)) o4 R5 e5 = some (x, R6, e6))) (r1 : Int) (r2 r3 r4 : ByteArray) (r5 : Int) (r6 : ByteArray) (r7 : Int)
    (HF : Aside0 ((if (o4 && (b != 15)) = true ∧ x > 4611686018427387904 then some (noRec 190) else (rrT k o3 R6 e6).bind fun q7 => (coppiceref02_Reader_End.f q7.2.1 q7.2.2).bind fun q8 => if q8.1 = 0 then (coppiceref19_Right.f k b p tx nm (wrap64 x) q7.1).bind fun r => if r = true then some (b, p, tx, nm, wrap64 x, q7.1, 0) else some (noRec 190) else some (noRec 190)) = some (r1, r2, r3, r4, r5, r6, r7))) :
    Calls Tryz.prog 31 #[.string a0] w fun e w' => e = .returned (.tuple #[.agg #[.int .i64 r1, .string r2, .string r3, .string r4, .int .i64 r5, .string r6], .int .i64 r7]) ∧ Below w.heap.size w w' := by
  have hw0 := Aside0.mk (show Below w.heap.size w (w.alloc (.cells #[.int .i64 0, .string ⟨#[]⟩, .string ⟨#[]⟩, .string ⟨#[]⟩, .int .i64 0, .string ⟨#[]⟩] 23)) from (Below.refl _ w).alloc (Nat.le_refl _) _)
  have hk0 := Aside0.mk (show (w.alloc (.cells #[.int .i64 0, .string ⟨#[]⟩, .string ⟨#[]⟩, .string ⟨#[]⟩, .int .i64 0, .string ⟨#[]⟩] 23)).heap[w.heap.size]? = some (.cells #[.int .i64 0, .string ⟨#[]⟩, .string ⟨#[]⟩, .string ⟨#[]⟩, .int .i64 0, .string ⟨#[]⟩] 23 (0, 0)) by simpa using heap_alloc_new w _)
  have hwb : IntKind.i64.wrap b = b := by rw [i64_w]; unfold wrap64; omega
  go_enter Tryz.func31, Tryz.ntmps31
  go_upto_region 2 with (fail)
  have d1 := DS.start hw0.out hk0.out (Nat.le_refl _) (blk_new (w.alloc (.cells #[.int .i64 0, .string ⟨#[]⟩, .string ⟨#[]⟩, .string ⟨#[]⟩, .int .i64 0, .string ⟨#[]⟩] 23)) (.cells #[.string a0, .int .i64 0] 69)) (Nat.le_refl _) (below_alloc (Below.refl _ _) _)
  have hg : (w.alloc (.cells #[.int .i64 0, .string ⟨#[]⟩, .string ⟨#[]⟩, .string ⟨#[]⟩, .int .i64 0, .string ⟨#[]⟩] 23)).heap.size = w.heap.size + 1 := by simp
  rw [hg] at d1
  generalize hw1 : (w.alloc (.cells #[.int .i64 0, .string ⟨#[]⟩, .string ⟨#[]⟩, .string ⟨#[]⟩, .int .i64 0, .string ⟨#[]⟩] 23)).alloc (.cells #[.string a0, .int .i64 0] 69) = w1 at d1 ⊢
  generalize hg1 : w.heap.size + 1 = g at d1 ⊢
  clear hw1 hg1 hg hk0 hw0
  go_upto_region 3 with ((go_at_call 58; refine (coppiceref02_Reader_Byte.calls g a0 0 _ _ _ w _ (isR_mk d1.hr d1.rge) d1.hB HBy.out).mono ?_; rintro e w2 ⟨rfl, hI, hB, hk⟩; have d2 := Aside0.mk (d1.keep hk hI.1 hB); clear hI hB hk))
  have d3 := d2.out.box (.cells #[.int .i64 b, .string ⟨#[]⟩, .string ⟨#[]⟩, .string ⟨#[]⟩, .int .i64 0, .string ⟨#[]⟩] 23)
  clear d1
  generalize hw3 : w2.alloc (.cells #[.int .i64 b, .string ⟨#[]⟩, .string ⟨#[]⟩, .string ⟨#[]⟩, .int .i64 0, .string ⟨#[]⟩] 23) = w3 at d3 ⊢
  generalize hC : w2.heap.size = C at d3 ⊢
  clear hw3 hC d2
  have cC0 := (d3.cell (.head _) 0).trans rfl
  go_cut [6, 7, 8, 9] (fun v6 v7 v8 v9 wc => v6 = .bool o1 ∧ v7 = .bool o2 ∧ v8 = .bool o4 ∧ v9 = .bool o3 ∧ DS w wc g (.cells #[.string R2, .int .i64 e2] 69) [(C, .cells #[.int .i64 b, .string ⟨#[]⟩, .string ⟨#[]⟩, .string ⟨#[]⟩, .int .i64 0, .string ⟨#[]⟩] 23), (w.heap.size, .cells #[.int .i64 0, .string ⟨#[]⟩, .string ⟨#[]⟩, .string ⟨#[]⟩, .int .i64 0, .string ⟨#[]⟩] 23)])
  case first =>
    go_wp2_with ((go_at_call 24; refine (coppiceref19_Has.calls b o1 o2 o4 o3 _ HH.out).mono ?_; rintro e w3 ⟨rfl, ⟨nd, rfl⟩⟩; have dn := d3.drewN nd))
    go_meet
    case rel => exact ⟨rfl, rfl, rfl, rfl, dn⟩
  case rest =>
    obtain ⟨rfl, rfl, rfl, rfl, d4⟩ := hcut
    clear d3 cC0
    go_step
    go_step
    go_cut [] (fun wc => DS w wc g (.cells #[.string R3, .int .i64 e3] 69) [(C, .cells #[.int .i64 b, .string p, .string ⟨#[]⟩, .string ⟨#[]⟩, .int .i64 0, .string ⟨#[]⟩] 23), (w.heap.size, .cells #[.int .i64 0, .string ⟨#[]⟩, .string ⟨#[]⟩, .string ⟨#[]⟩, .int .i64 0, .string ⟨#[]⟩] 23)])
    case first =>
      have cC0 := (d4.cell (.head _) 0).trans rfl
      cases h0 with
      | false =>
        have hq := HP.out
        clear HP
        simp only [rrT, Bool.false_eq_true, if_false, Option.some.injEq, Prod.mk.injEq] at hq
        obtain ⟨rfl, rfl, rfl⟩ := hq
        go_wp2
        go_meet
        case rel => exact d4
      | true =>
        have hq := Aside0.mk (show coppiceref02_Reader_Text.f k R2 e2 2000 = some (p, R3, e3) from HP.out)
        clear HP
        go_wp2_with ((go_at_call 59; refine (coppiceref02_Reader_Text.calls k g R2 e2 2000 _ _ _ w _ (isR_mk d4.hr d4.rge) d4.hB hq.out).mono ?_; rintro e wy ⟨rfl, hI, hB, hk⟩; have dy := d4.keep hk hI.1 hB; have cX := (dy.cell (.head _) 1).trans rfl; have fX := dy.fro (.head _) 1; clear hI hB hk))
        go_meet
        case rel => exact DS.set [] dy 1 (.string p) rfl
    case rest =>
      clear d4
      have d4 := hcut
      clear hcut
      go_step
      go_step
      go_cut [] (fun wc => DS w wc g (.cells #[.string R4, .int .i64 e4] 69) [(C, .cells #[.int .i64 b, .string p, .string tx, .string ⟨#[]⟩, .int .i64 0, .string ⟨#[]⟩] 23), (w.heap.size, .cells #[.int .i64 0, .string ⟨#[]⟩, .string ⟨#[]⟩, .string ⟨#[]⟩, .int .i64 0, .string ⟨#[]⟩] 23)])
      case first =>
        cases o1 with
        | false =>
          have hq := HTo.out
          clear HTo
          simp only [rrT, Bool.false_eq_true, if_false, Option.some.injEq, Prod.mk.injEq] at hq
          obtain ⟨rfl, rfl, rfl⟩ := hq
          go_wp2
          go_meet
          case rel => exact d4
        | true =>
          have hq := Aside0.mk (show coppiceref02_Reader_Text.f k R3 e3 2000 = some (tx, R4, e4) from HTo.out)
          clear HTo
          go_wp2_with ((go_at_call 59; refine (coppiceref02_Reader_Text.calls k g R3 e3 2000 _ _ _ w _ (isR_mk d4.hr d4.rge) d4.hB hq.out).mono ?_; rintro e wy ⟨rfl, hI, hB, hk⟩; have dy := d4.keep hk hI.1 hB; have cX := (dy.cell (.head _) 2).trans rfl; have fX := dy.fro (.head _) 2; clear hI hB hk))
          go_meet
          case rel => exact DS.set [] dy 2 (.string tx) rfl
      case rest =>
        clear d4
        have d4 := hcut
        clear hcut
        go_step
        go_step
        go_cut [] (fun wc => DS w wc g (.cells #[.string R5, .int .i64 e5] 69) [(C, .cells #[.int .i64 b, .string p, .string tx, .string nm, .int .i64 0, .string ⟨#[]⟩] 23), (w.heap.size, .cells #[.int .i64 0, .string ⟨#[]⟩, .string ⟨#[]⟩, .string ⟨#[]⟩, .int .i64 0, .string ⟨#[]⟩] 23)])
        case first =>
          cases o2 with
          | false =>
            have hq := HM.out
            clear HM
            simp only [rrT, Bool.false_eq_true, if_false, Option.some.injEq, Prod.mk.injEq] at hq
            obtain ⟨rfl, rfl, rfl⟩ := hq
            go_wp2
            go_meet
            case rel => exact d4
          | true =>
            have hq := Aside0.mk (show coppiceref02_Reader_Text.f k R4 e4 2000 = some (nm, R5, e5) from HM.out)
            clear HM
            go_wp2_with ((go_at_call 59; refine (coppiceref02_Reader_Text.calls k g R4 e4 2000 _ _ _ w _ (isR_mk d4.hr d4.rge) d4.hB hq.out).mono ?_; rintro e wy ⟨rfl, hI, hB, hk⟩; have dy := d4.keep hk hI.1 hB; have cX := (dy.cell (.head _) 3).trans rfl; have fX := dy.fro (.head _) 3; clear hI hB hk))
            go_meet
            case rel => exact DS.set [] dy 3 (.string nm) rfl
        case rest =>
          clear d4
          have d4 := hcut
          clear hcut
          have h := HF.out
          clear HF
          by_cases hearly : (o4 && (b != 15)) = true ∧ x > 4611686018427387904
          · rw [if_pos hearly] at h
            simp only [noRec, Option.some.injEq, Prod.mk.injEq] at h
            obtain ⟨rfl, rfl, rfl, rfl, rfl, rfl, rfl⟩ := h
            obtain ⟨he1, he2⟩ := hearly
            rw [Bool.and_eq_true] at he1
            obtain ⟨rfl, hb15⟩ := he1
            have e15 : (b == 15) = false := by simpa using hb15
            have hq := HN.out
            simp only [rrN, e15, Bool.and_false, Bool.false_eq_true, if_false, if_true] at hq
            have hx := Aside0.mk hq
            have hgt : decide (x > 4611686018427387904) = true := decide_eq_true he2
            clear hq HN hb15 he2
            have cC0 := (d4.cell (.head _) 0).trans rfl
            go_wp2_with ((go_at_call 30; refine (coppiceref02_Reader_Short.calls k g R5 e5 _ _ _ w _ (isR_mk d4.hr d4.rge) d4.hB hx.out).mono ?_; rintro e wy ⟨rfl, hI, hB, hk⟩; have dy := d4.keep hk hI.1 hB; have cR0 := (dy.cell (.tail _ (.head _)) 0).trans rfl; have cR1 := (dy.cell (.tail _ (.head _)) 1).trans rfl; have cR2 := (dy.cell (.tail _ (.head _)) 2).trans rfl; have cR3 := (dy.cell (.tail _ (.head _)) 3).trans rfl; have cR4 := (dy.cell (.tail _ (.head _)) 4).trans rfl; have cR5 := (dy.cell (.tail _ (.head _)) 5).trans rfl; have fR0 := dy.fro (.tail _ (.head _)) 0; have fR1 := dy.fro (.tail _ (.head _)) 1; have fR2 := dy.fro (.tail _ (.head _)) 2; have fR3 := dy.fro (.tail _ (.head _)) 3; have fR4 := dy.fro (.tail _ (.head _)) 4; have fR5 := dy.fro (.tail _ (.head _)) 5; clear hI hB hk))
            have dz := DS.set6 [_] dy (.int .i64 0) (.string ⟨#[]⟩) (.string ⟨#[]⟩) (.string ⟨#[]⟩) (.int .i64 0) (.string ⟨#[]⟩)
            dsimp only [List.cons_append, List.nil_append] at dz
            refine bodyPost_ret (results_ct rfl _ _ w.heap.size 23 #[.int .i64 0, .string ⟨#[]⟩, .string ⟨#[]⟩, .string ⟨#[]⟩, .int .i64 0, .string ⟨#[]⟩] (0, 0) _ rfl (dz.blk (.tail _ (.head _))) Tryz.underlying23 rfl (by kernel_rfl)) rfl ⟨by first | rfl | (simp only [i64_w]; rfl), dz.hB⟩
          · rw [if_neg hearly] at h
            obtain ⟨⟨d, R7, e7⟩, hd, h⟩ := Option.bind_eq_some_iff.1 h
            obtain ⟨⟨v8, R8, e8⟩, he, h⟩ := Option.bind_eq_some_iff.1 h
            dsimp only at h he
            have HD := Aside0.mk hd
            have HE := Aside0.mk he
            clear hd he
            obtain ⟨n, hn⟩ : ∃ n, wrap64 x = n := ⟨_, rfl⟩
            rw [hn] at h
            have HH2 := Aside0.mk h
            clear h
            go_step
            go_step
            go_cut [] (fun wc => DS w wc g (.cells #[.string R6, .int .i64 e6] 69) [(C, .cells #[.int .i64 b, .string p, .string tx, .string nm, .int .i64 n, .string ⟨#[]⟩] 23), (w.heap.size, .cells #[.int .i64 0, .string ⟨#[]⟩, .string ⟨#[]⟩, .string ⟨#[]⟩, .int .i64 0, .string ⟨#[]⟩] 23)])
            case first =>
              have cC0 := (d4.cell (.head _) 0).trans rfl
              have hwx : IntKind.i64.wrap x = n := by rw [i64_w]; exact hn
              cases o4 with
              | false =>
                have hq := HN.out
                simp only [rrN, Bool.false_and, Bool.false_eq_true, if_false, Option.some.injEq, Prod.mk.injEq] at hq
                obtain ⟨rfl, rfl, rfl⟩ := hq
                obtain rfl : (0 : Int) = n := by rw [← hn]; unfold wrap64; omega
                clear HN hearly hwx hn
                go_wp2
                go_meet
                case rel => exact d4
              | true =>
                by_cases h15 : b = 15
                · have e15 : (b == 15) = true := beq_iff_eq.2 h15
                  have hq := HN.out
                  simp only [rrN, e15, Bool.true_and, if_true] at hq
                  have hx := Aside0.mk hq
                  clear hq HN hearly hn
                  go_wp2_with ((go_at_call 60; refine (coppiceref02_Reader_Fixed.calls k g R5 e5 _ _ _ w _ (isR_mk d4.hr d4.rge) d4.hB hx.out).mono ?_; rintro e wy ⟨rfl, hI, hB, hk⟩; have dy := d4.keep hk hI.1 hB; have cX := (dy.cell (.head _) 4).trans rfl; have fX := dy.fro (.head _) 4; clear hI hB hk))
                  go_meet
                  case rel => exact DS.set [] dy 4 (.int .i64 n) rfl
                · have e15 : (b == 15) = false := beq_eq_false_iff_ne.2 h15
                  have e15' : (b != 15) = true := bne_iff_ne.2 h15
                  have hq := HN.out
                  simp only [rrN, e15, Bool.and_false, Bool.false_eq_true, if_false, if_true] at hq
                  have hx := Aside0.mk hq
                  have hgt : decide (x > 4611686018427387904) = false := decide_eq_false (fun hh => hearly ⟨by rw [e15']; rfl, hh⟩)
                  clear hq HN hearly hn e15'
                  go_wp2_with ((go_at_call 30; refine (coppiceref02_Reader_Short.calls k g R5 e5 _ _ _ w _ (isR_mk d4.hr d4.rge) d4.hB hx.out).mono ?_; rintro e wy ⟨rfl, hI, hB, hk⟩; have dy := d4.keep hk hI.1 hB; have cX := (dy.cell (.head _) 4).trans rfl; have fX := dy.fro (.head _) 4; clear hI hB hk))
                  go_meet
                  case rel => exact DS.set [] dy 4 (.int .i64 n) rfl
            case rest =>
              clear d4
              have d4 := hcut
              clear hcut
              go_step
              go_step
              go_cut [] (fun wc => DS w wc g (.cells #[.string R7, .int .i64 e7] 69) [(C, .cells #[.int .i64 b, .string p, .string tx, .string nm, .int .i64 n, .string d] 23), (w.heap.size, .cells #[.int .i64 0, .string ⟨#[]⟩, .string ⟨#[]⟩, .string ⟨#[]⟩, .int .i64 0, .string ⟨#[]⟩] 23)])
              case first =>
                cases o3 with
                | false =>
                  have hq := HD.out
                  clear HD
                  simp only [rrT, Bool.false_eq_true, if_false, Option.some.injEq, Prod.mk.injEq] at hq
                  obtain ⟨rfl, rfl, rfl⟩ := hq
                  go_wp2
                  go_meet
                  case rel => exact d4
                | true =>
                  have hq := Aside0.mk (show coppiceref02_Reader_Text.f k R6 e6 2000 = some (d, R7, e7) from HD.out)
                  clear HD
                  go_wp2_with ((go_at_call 59; refine (coppiceref02_Reader_Text.calls k g R6 e6 2000 _ _ _ w _ (isR_mk d4.hr d4.rge) d4.hB hq.out).mono ?_; rintro e wy ⟨rfl, hI, hB, hk⟩; have dy := d4.keep hk hI.1 hB; have cX := (dy.cell (.head _) 5).trans rfl; have fX := dy.fro (.head _) 5; clear hI hB hk))
                  go_meet
                  case rel => exact DS.set [] dy 5 (.string d) rfl
              case rest =>
                clear d4
                have d4 := hcut
                clear hcut
                have h := HH2.out
                clear HH2
                by_cases hv8 : v8 = 0
                · subst hv8
                  rw [if_pos rfl] at h
                  obtain ⟨r, hr, h⟩ := Option.bind_eq_some_iff.1 h
                  have HR := Aside0.mk hr
                  clear hr
                  cases r with
                  | false =>
                    rw [if_neg (by decide)] at h
                    simp only [noRec, Option.some.injEq, Prod.mk.injEq] at h
                    obtain ⟨rfl, rfl, rfl, rfl, rfl, rfl, rfl⟩ := h
                    go_wp2_with (first
                      | (go_at_call 61; refine (coppiceref02_Reader_End.calls g R7 e7 _ R8 e8 w _ (isR_mk d4.hr d4.rge) d4.hB HE.out).mono ?_; rintro e we ⟨rfl, hI, hB, hk⟩; have dE := d4.keep hk hI.1 hB; have cC0 := (dE.cell (.head _) 0).trans rfl; have cC1 := (dE.cell (.head _) 1).trans rfl; have cC2 := (dE.cell (.head _) 2).trans rfl; have cC3 := (dE.cell (.head _) 3).trans rfl; have cC4 := (dE.cell (.head _) 4).trans rfl; have cC5 := (dE.cell (.head _) 5).trans rfl; clear hI hB hk)
                      | (go_at_call 23; refine (coppiceref19_Right.calls k _ _ _ _ _ _ _ _ HR.out).mono ?_; rintro e wz ⟨rfl, hb⟩; have dZ := dE.below hb; have cR0 := (dZ.cell (.tail _ (.head _)) 0).trans rfl; have cR1 := (dZ.cell (.tail _ (.head _)) 1).trans rfl; have cR2 := (dZ.cell (.tail _ (.head _)) 2).trans rfl; have cR3 := (dZ.cell (.tail _ (.head _)) 3).trans rfl; have cR4 := (dZ.cell (.tail _ (.head _)) 4).trans rfl; have cR5 := (dZ.cell (.tail _ (.head _)) 5).trans rfl; have fR0 := dZ.fro (.tail _ (.head _)) 0; have fR1 := dZ.fro (.tail _ (.head _)) 1; have fR2 := dZ.fro (.tail _ (.head _)) 2; have fR3 := dZ.fro (.tail _ (.head _)) 3; have fR4 := dZ.fro (.tail _ (.head _)) 4; have fR5 := dZ.fro (.tail _ (.head _)) 5; clear hb))
                    have dz := DS.set6 [_] dZ (.int .i64 0) (.string ⟨#[]⟩) (.string ⟨#[]⟩) (.string ⟨#[]⟩) (.int .i64 0) (.string ⟨#[]⟩)
                    dsimp only [List.cons_append, List.nil_append] at dz
                    refine bodyPost_ret (results_ct rfl _ _ w.heap.size 23 #[.int .i64 0, .string ⟨#[]⟩, .string ⟨#[]⟩, .string ⟨#[]⟩, .int .i64 0, .string ⟨#[]⟩] (0, 0) _ rfl (dz.blk (.tail _ (.head _))) Tryz.underlying23 rfl (by kernel_rfl)) rfl ⟨by first | rfl | (simp only [i64_w]; rfl), dz.hB⟩
                  | true =>
                    rw [if_pos rfl] at h
                    simp only [Option.some.injEq, Prod.mk.injEq] at h
                    obtain ⟨rfl, rfl, rfl, rfl, rfl, rfl, rfl⟩ := h
                    go_wp2_with (first
                      | (go_at_call 61; refine (coppiceref02_Reader_End.calls g R7 e7 _ R8 e8 w _ (isR_mk d4.hr d4.rge) d4.hB HE.out).mono ?_; rintro e we ⟨rfl, hI, hB, hk⟩; have dE := d4.keep hk hI.1 hB; have cC0 := (dE.cell (.head _) 0).trans rfl; have cC1 := (dE.cell (.head _) 1).trans rfl; have cC2 := (dE.cell (.head _) 2).trans rfl; have cC3 := (dE.cell (.head _) 3).trans rfl; have cC4 := (dE.cell (.head _) 4).trans rfl; have cC5 := (dE.cell (.head _) 5).trans rfl; clear hI hB hk)
                      | (go_at_call 23; refine (coppiceref19_Right.calls k _ _ _ _ _ _ _ _ HR.out).mono ?_; rintro e wz ⟨rfl, hb⟩; have dZ := dE.below hb; have cC0 := (dZ.cell (.head _) 0).trans rfl; have cC1 := (dZ.cell (.head _) 1).trans rfl; have cC2 := (dZ.cell (.head _) 2).trans rfl; have cC3 := (dZ.cell (.head _) 3).trans rfl; have cC4 := (dZ.cell (.head _) 4).trans rfl; have cC5 := (dZ.cell (.head _) 5).trans rfl; have cR0 := (dZ.cell (.tail _ (.head _)) 0).trans rfl; have cR1 := (dZ.cell (.tail _ (.head _)) 1).trans rfl; have cR2 := (dZ.cell (.tail _ (.head _)) 2).trans rfl; have cR3 := (dZ.cell (.tail _ (.head _)) 3).trans rfl; have cR4 := (dZ.cell (.tail _ (.head _)) 4).trans rfl; have cR5 := (dZ.cell (.tail _ (.head _)) 5).trans rfl; have fR0 := dZ.fro (.tail _ (.head _)) 0; have fR1 := dZ.fro (.tail _ (.head _)) 1; have fR2 := dZ.fro (.tail _ (.head _)) 2; have fR3 := dZ.fro (.tail _ (.head _)) 3; have fR4 := dZ.fro (.tail _ (.head _)) 4; have fR5 := dZ.fro (.tail _ (.head _)) 5; clear hb))
                    have dz := DS.set6 [_] dZ (.int .i64 b) (.string p) (.string tx) (.string nm) (.int .i64 n) (.string d)
                    dsimp only [List.cons_append, List.nil_append] at dz
                    refine bodyPost_ret (results_ct rfl _ _ w.heap.size 23 #[.int .i64 b, .string p, .string tx, .string nm, .int .i64 n, .string d] (0, 0) _ rfl (dz.blk (.tail _ (.head _))) Tryz.underlying23 rfl (by kernel_rfl)) rfl ⟨by first | rfl | (simp only [i64_w]; rfl), dz.hB⟩
                · rw [if_neg hv8] at h
                  simp only [noRec, Option.some.injEq, Prod.mk.injEq] at h
                  obtain ⟨rfl, rfl, rfl, rfl, rfl, rfl, rfl⟩ := h
                  have ev : (v8 != 0) = true := bne_iff_ne.2 hv8
                  go_wp2_with ((go_at_call 61; refine (coppiceref02_Reader_End.calls g R7 e7 _ R8 e8 w _ (isR_mk d4.hr d4.rge) d4.hB HE.out).mono ?_; rintro e we ⟨rfl, hI, hB, hk⟩; have dE := d4.keep hk hI.1 hB; have cR0 := (dE.cell (.tail _ (.head _)) 0).trans rfl; have cR1 := (dE.cell (.tail _ (.head _)) 1).trans rfl; have cR2 := (dE.cell (.tail _ (.head _)) 2).trans rfl; have cR3 := (dE.cell (.tail _ (.head _)) 3).trans rfl; have cR4 := (dE.cell (.tail _ (.head _)) 4).trans rfl; have cR5 := (dE.cell (.tail _ (.head _)) 5).trans rfl; have fR0 := dE.fro (.tail _ (.head _)) 0; have fR1 := dE.fro (.tail _ (.head _)) 1; have fR2 := dE.fro (.tail _ (.head _)) 2; have fR3 := dE.fro (.tail _ (.head _)) 3; have fR4 := dE.fro (.tail _ (.head _)) 4; have fR5 := dE.fro (.tail _ (.head _)) 5; clear hI hB hk))
                  have dz := DS.set6 [_] dE (.int .i64 0) (.string ⟨#[]⟩) (.string ⟨#[]⟩) (.string ⟨#[]⟩) (.int .i64 0) (.string ⟨#[]⟩)
                  dsimp only [List.cons_append, List.nil_append] at dz
                  refine bodyPost_ret (results_ct rfl _ _ w.heap.size 23 #[.int .i64 0, .string ⟨#[]⟩, .string ⟨#[]⟩, .string ⟨#[]⟩, .int .i64 0, .string ⟨#[]⟩] (0, 0) _ rfl (dz.blk (.tail _ (.head _))) Tryz.underlying23 rfl (by kernel_rfl)) rfl ⟨by first | rfl | (simp only [i64_w]; rfl), dz.hB⟩

set_option maxHeartbeats 1000000 in
theorem coppiceref19_body.calls (k : Nat) (a0 : ByteArray) (r1 : Int) (r2 r3 r4 : ByteArray) (r5 : Int) (r6 : ByteArray) (r7 : Int) (w : World) (h : coppiceref19_body.f k a0 = some (r1, r2, r3, r4, r5, r6, r7)) :
    Calls Tryz.prog 31 #[.string a0] w fun e w' => e = .returned (.tuple #[.agg #[.int .i64 r1, .string r2, .string r3, .string r4, .int .i64 r5, .string r6], .int .i64 r7]) ∧ Below w.heap.size w w' := by
  unfold coppiceref19_body.f at h
  obtain ⟨⟨b, R2, e2⟩, hB, h⟩ := Option.bind_eq_some_iff.1 h
  dsimp only at h
  by_cases hb : 0 ≤ b ∧ b < 256
  · rw [if_pos hb] at h
    obtain ⟨⟨o1, o2, o4, o3⟩, hO, h⟩ := Option.bind_eq_some_iff.1 h
    obtain ⟨⟨p, R3, e3⟩, h3, h⟩ := Option.bind_eq_some_iff.1 h
    obtain ⟨⟨tx, R4, e4⟩, h4, h⟩ := Option.bind_eq_some_iff.1 h
    obtain ⟨⟨nm, R5, e5⟩, h5, h⟩ := Option.bind_eq_some_iff.1 h
    obtain ⟨⟨x, R6, e6⟩, h6, h⟩ := Option.bind_eq_some_iff.1 h
    exact coppiceref19_body.main k a0 w b R2 e2 ⟨hB⟩ hb.1 hb.2 o1 o2 o4 o3 ⟨hO⟩ _ rfl p R3 e3 ⟨h3⟩ tx R4 e4 ⟨h4⟩ nm R5 e5 ⟨h5⟩ x R6 e6 ⟨h6⟩ r1 r2 r3 r4 r5 r6 r7 ⟨h⟩
  · rw [if_neg hb] at h; cases h


end Go.Proofs.YtofdpgcnconibaaGreatDoor.PA
