-- WRITTEN BY a program of this session (pp.sh)
import Derived.Test.YtofdpgcnconibaaGreatDoorPAx0
import Derived.Test.YtofdpgcnconibaaGreatDoorPAx3
import Derived.Test.YtofdpgcnconibaaGreatDoorPAx8
import Derived.Test.YtofdpgcnconibaaGreatDoorPAx22
import Derived.Test.YtofdpgcnconibaaGreatDoorPAx23
import Derived.Test.YtofdpgcnconibaaGreatDoorPAx24
import Derived.Test.YtofdpgcnconibaaGreatDoorPAx25
set_option linter.unusedVariables false
set_option linter.unusedSimpArgs false
namespace Go.Proofs.YtofdpgcnconibaaGreatDoor.PA
open Go.RowKit Go.Proofs.YtofdpgcnconibaaGreatDoorW.PrintWords Go.Proofs.YtofdpgcnconibaaGreatDoorW.PrintLast Go.Proofs.YtofdpgcnconibaaGreatDoorW.PrintMore Go.Proofs.YtofdpgcnconibaaGreatDoor.Plain
attribute [local go_sem] max2_int min2_int max_two min_two max_three min_three max_four min_four binOp_leq_s binOp_gtr_s binOp_geq_s lit_byte   -- for this text's walks alone
set_option linter.unusedVariables false
set_option linter.unusedSimpArgs false

/-! ### cmd_decode: function 29, by hand -/
/-- A text that is read, if it is asked for. -/
def rdT (k : Nat) (has : Bool) (T : ByteArray) (a e : Int) : Option (ByteArray × ByteArray × Int × Int) := if has = true then pack_Reader_Text.f k T a e 2000 else some (⟨#[]⟩, T, a, e)
/-- A number that is read, if it is asked for. -/
def rdN (k : Nat) (fx sh : Bool) (T : ByteArray) (a e : Int) : Option (Int × ByteArray × Int × Int) :=
  if fx = true then (pack_Reader_Fixed.f k T a e).bind fun q => some (wrap64 q.1, q.2) else if sh = true then (pack_Reader_Short.f T a e).bind fun q => some (wrap64 q.1, q.2) else some (0, T, a, e)
def noCmd (e : Int) : Int × ByteArray × ByteArray × ByteArray × Int × ByteArray × Int × Option Int := (0, ⟨#[]⟩, ⟨#[]⟩, ⟨#[]⟩, 0, ⟨#[]⟩, 0, some e)
/-- cmd.decode. -/
def cmd_decode.f (k : Nat) (a0 : ByteArray) : Option (Int × ByteArray × ByteArray × ByteArray × Int × ByteArray × Int × Option Int) :=
  (pack_Reader_Text.f k a0 0 0 (a0.size : Int)).bind fun q1 =>
  if q1.2.2.2 = 0 then
    (pack_Reader_Byte.f q1.1 0 0).bind fun q2 =>
    if 0 ≤ q2.1 ∧ q2.1 < 256 then
      (cmd_of.f k q2.1).bind fun o =>
      if o.2.2.2.2.2.2 = true then
        (rdT k (q2.1 != 16) q2.2.1 q2.2.2.1 q2.2.2.2).bind fun q3 =>
        (rdT k o.1 q3.2.1 q3.2.2.1 q3.2.2.2).bind fun q4 =>
        (rdT k o.2.1 q4.2.1 q4.2.2.1 q4.2.2.2).bind fun q5 =>
        (rdN k (o.2.2.2.1 && (q2.1 == 15)) o.2.2.2.1 q5.2.1 q5.2.2.1 q5.2.2.2).bind fun q6 =>
        (rdT k o.2.2.1 q6.2.1 q6.2.2.1 q6.2.2.2).bind fun q7 =>
        (pack_Reader_End.f q7.2.1 q7.2.2.1 q7.2.2.2).bind fun q8 =>
        if q8.1 = 0 then
          (cmd_check.f k q2.1 q3.1 q4.1 q5.1 q6.1 q7.1).bind fun r => match r with
            | some _ => some (noCmd 190)
            | none => some (q2.1, q3.1, q4.1, q5.1, q6.1, q7.1, wrap64 ((a0.size : Int) - wrap64 ((q1.2.1.size : Int) - q1.2.2.1)), none)
        else some (noCmd 190)
      else some (noCmd 190)
    else none
  else some (noCmd (if q1.2.2.2 = 21 then 190 else 20))
theorem isS_mk {w0 W : World} {g : Nat} {s : ByteArray} {a e : Int} (h1 : W.heap[g]? = some (.cells #[.string s, .int .i64 a, .int .i64 e] 125 (0, 0))) (h2 : w0.heap.size ≤ g) : IsS125 w0 W g s a e := And.intro h1 h2
theorem left_ok (s : ByteArray) (a : Int) : pack_Reader_Left.f s a 0 = some (wrap64 ((s.size : Int) - a), s, a, 0) := by
  simp [pack_Reader_Left.f, pack_Reader_fails.f]

set_option maxHeartbeats 8000000 in
set_option maxRecDepth 100000 in
theorem cmd_decode.bad1 (k : Nat) (a0 t s1 : ByteArray) (a1 : Int) (e1 : Int) (HT : Aside0 (pack_Reader_Text.f k a0 0 0 (a0.size : Int) = some (t, s1, a1, e1))) (h0 : (e1 == 0) = false) (n : Int) (hn : n = if e1 = 21 then 190 else 20) (w : World) :
    Calls Tryz.prog 29 #[.string a0] w fun e w' => e = .returned (.tuple #[.agg #[.int .i64 0, .string ⟨#[]⟩, .string ⟨#[]⟩, .string ⟨#[]⟩, .int .i64 0, .string ⟨#[]⟩], .int .i64 0, errW (some n)]) ∧ Below w.heap.size w w' := by
  have hw0 := Aside0.mk (show Below w.heap.size w (w.alloc (.cells #[.int .i64 0, .string ⟨#[]⟩, .string ⟨#[]⟩, .string ⟨#[]⟩, .int .i64 0, .string ⟨#[]⟩] 23)) from (Below.refl _ w).alloc (Nat.le_refl _) _)
  have hk0 := Aside0.mk (show (w.alloc (.cells #[.int .i64 0, .string ⟨#[]⟩, .string ⟨#[]⟩, .string ⟨#[]⟩, .int .i64 0, .string ⟨#[]⟩] 23)).heap[w.heap.size]? = some (.cells #[.int .i64 0, .string ⟨#[]⟩, .string ⟨#[]⟩, .string ⟨#[]⟩, .int .i64 0, .string ⟨#[]⟩] 23 (0, 0)) by simpa using heap_alloc_new w _)
  rw [errW_some]
  cases h21 : (e1 == 21) with
  | true =>
    obtain rfl : n = 190 := by rw [hn, if_pos (beq_iff_eq.1 h21)]
    clear hn
    go_enter Tryz.func29, Tryz.ntmps29
    go_wp2_with (first
    | (go_at_call 49; refine (pack_Read.calls a0 _ _ _ _ _ (Below.refl _ _) rfl).mono ?_; rintro e w2 ⟨g1, rfl, hI, _, hb⟩; have d2 := Aside0.mk (DS.start hw0.out hk0.out (Nat.le_refl _) hI.1 hI.2 hb); clear hI hb)
    | (go_at_call 50; refine (pack_Reader_Text.calls k g1 _ _ _ _ _ _ _ _ w _ (isS_mk d2.out.hr d2.out.rge) d2.out.hB HT.out).mono ?_; rintro e w3 ⟨rfl, hI, hB, hk⟩; have d3 := Aside0.mk (d2.out.keep hk hI.1 hB); clear hI hB hk)
    | (go_at_call 49; refine (pack_Read.calls t _ _ _ _ _ (Below.refl _ _) rfl).mono ?_; rintro e w4 ⟨g2, rfl, hI, _, hb⟩; have d4 := Aside0.mk (d3.out.next hI.1 hI.2 hb); clear hI hb)
    | (go_at_call 51; refine (pack_Reader_Err.calls g1 s1 a1 e1 _ _ _ _ w _ (isS_mk (d4.out.blk (.head _)) (d4.out.since (.head _))) d4.out.hB rfl).mono ?_; rintro e w5 ⟨rfl, hI, hB, hk⟩; have d5 := Aside0.mk (d4.out.other (.head _) hk hI.1 hB); clear hI hB hk; have cR0 := (d5.out.cell (.tail _ (.head _)) 0).trans rfl; have cR1 := (d5.out.cell (.tail _ (.head _)) 1).trans rfl; have cR2 := (d5.out.cell (.tail _ (.head _)) 2).trans rfl; have cR3 := (d5.out.cell (.tail _ (.head _)) 3).trans rfl; have cR4 := (d5.out.cell (.tail _ (.head _)) 4).trans rfl; have cR5 := (d5.out.cell (.tail _ (.head _)) 5).trans rfl; have fR0 := d5.out.fro (.tail _ (.head _)) 0; have fR1 := d5.out.fro (.tail _ (.head _)) 1; have fR2 := d5.out.fro (.tail _ (.head _)) 2; have fR3 := d5.out.fro (.tail _ (.head _)) 3; have fR4 := d5.out.fro (.tail _ (.head _)) 4; have fR5 := d5.out.fro (.tail _ (.head _)) 5))
    have dz := DS.set6 [_] d5.out (.int .i64 0) (.string ⟨#[]⟩) (.string ⟨#[]⟩) (.string ⟨#[]⟩) (.int .i64 0) (.string ⟨#[]⟩)
    dsimp only [List.cons_append, List.nil_append] at dz
    refine bodyPost_ret (results_ctt rfl _ _ w.heap.size 23 #[.int .i64 0, .string ⟨#[]⟩, .string ⟨#[]⟩, .string ⟨#[]⟩, .int .i64 0, .string ⟨#[]⟩] (0, 0) _ rfl (dz.blk (.tail _ (.head _))) Tryz.underlying23 rfl (by kernel_rfl)) rfl ⟨rfl, dz.hB⟩
  | false =>
    obtain rfl : n = 20 := by rw [hn, if_neg (beq_eq_false_iff_ne.1 h21)]
    clear hn
    go_enter Tryz.func29, Tryz.ntmps29
    go_wp2_with (first
    | (go_at_call 49; refine (pack_Read.calls a0 _ _ _ _ _ (Below.refl _ _) rfl).mono ?_; rintro e w2 ⟨g1, rfl, hI, _, hb⟩; have d2 := Aside0.mk (DS.start hw0.out hk0.out (Nat.le_refl _) hI.1 hI.2 hb); clear hI hb)
    | (go_at_call 50; refine (pack_Reader_Text.calls k g1 _ _ _ _ _ _ _ _ w _ (isS_mk d2.out.hr d2.out.rge) d2.out.hB HT.out).mono ?_; rintro e w3 ⟨rfl, hI, hB, hk⟩; have d3 := Aside0.mk (d2.out.keep hk hI.1 hB); clear hI hB hk)
    | (go_at_call 49; refine (pack_Read.calls t _ _ _ _ _ (Below.refl _ _) rfl).mono ?_; rintro e w4 ⟨g2, rfl, hI, _, hb⟩; have d4 := Aside0.mk (d3.out.next hI.1 hI.2 hb); clear hI hb)
    | (go_at_call 51; refine (pack_Reader_Err.calls g1 s1 a1 e1 _ _ _ _ w _ (isS_mk (d4.out.blk (.head _)) (d4.out.since (.head _))) d4.out.hB rfl).mono ?_; rintro e w5 ⟨rfl, hI, hB, hk⟩; have d5 := Aside0.mk (d4.out.other (.head _) hk hI.1 hB); clear hI hB hk; have cR0 := (d5.out.cell (.tail _ (.head _)) 0).trans rfl; have cR1 := (d5.out.cell (.tail _ (.head _)) 1).trans rfl; have cR2 := (d5.out.cell (.tail _ (.head _)) 2).trans rfl; have cR3 := (d5.out.cell (.tail _ (.head _)) 3).trans rfl; have cR4 := (d5.out.cell (.tail _ (.head _)) 4).trans rfl; have cR5 := (d5.out.cell (.tail _ (.head _)) 5).trans rfl; have fR0 := d5.out.fro (.tail _ (.head _)) 0; have fR1 := d5.out.fro (.tail _ (.head _)) 1; have fR2 := d5.out.fro (.tail _ (.head _)) 2; have fR3 := d5.out.fro (.tail _ (.head _)) 3; have fR4 := d5.out.fro (.tail _ (.head _)) 4; have fR5 := d5.out.fro (.tail _ (.head _)) 5))
    have dz := DS.set6 [_] d5.out (.int .i64 0) (.string ⟨#[]⟩) (.string ⟨#[]⟩) (.string ⟨#[]⟩) (.int .i64 0) (.string ⟨#[]⟩)
    dsimp only [List.cons_append, List.nil_append] at dz
    refine bodyPost_ret (results_ctt rfl _ _ w.heap.size 23 #[.int .i64 0, .string ⟨#[]⟩, .string ⟨#[]⟩, .string ⟨#[]⟩, .int .i64 0, .string ⟨#[]⟩] (0, 0) _ rfl (dz.blk (.tail _ (.head _))) Tryz.underlying23 rfl (by kernel_rfl)) rfl ⟨rfl, dz.hB⟩

set_option maxHeartbeats 8000000 in
set_option maxRecDepth 100000 in
theorem cmd_decode.bad2 (k : Nat) (a0 t s1 : ByteArray) (a1 : Int) (b : Int) (T : ByteArray) (a e : Int) (o1 o2 o3 o4 : Bool) (o5 o6 : Int) (HT : Aside0 (pack_Reader_Text.f k a0 0 0 (a0.size : Int) = some (t, s1, a1, 0))) (HBy : Aside0 (pack_Reader_Byte.f t 0 0 = some (b, T, a, e))) (hb0 : 0 ≤ b) (hb1 : b < 256) (HO : Aside0 (cmd_of.f k b = some (o1, o2, o3, o4, o5, o6, false))) (w : World) :
    Calls Tryz.prog 29 #[.string a0] w fun e w' => e = .returned (.tuple #[.agg #[.int .i64 0, .string ⟨#[]⟩, .string ⟨#[]⟩, .string ⟨#[]⟩, .int .i64 0, .string ⟨#[]⟩], .int .i64 0, .iface 27 (.int .i64 190)]) ∧ Below w.heap.size w w' := by
  have hw0 := Aside0.mk (show Below w.heap.size w (w.alloc (.cells #[.int .i64 0, .string ⟨#[]⟩, .string ⟨#[]⟩, .string ⟨#[]⟩, .int .i64 0, .string ⟨#[]⟩] 23)) from (Below.refl _ w).alloc (Nat.le_refl _) _)
  have hk0 := Aside0.mk (show (w.alloc (.cells #[.int .i64 0, .string ⟨#[]⟩, .string ⟨#[]⟩, .string ⟨#[]⟩, .int .i64 0, .string ⟨#[]⟩] 23)).heap[w.heap.size]? = some (.cells #[.int .i64 0, .string ⟨#[]⟩, .string ⟨#[]⟩, .string ⟨#[]⟩, .int .i64 0, .string ⟨#[]⟩] 23 (0, 0)) by simpa using heap_alloc_new w _)
  have hwb : IntKind.i64.wrap b = b := by rw [i64_w]; unfold wrap64; omega
  go_enter Tryz.func29, Tryz.ntmps29
  go_upto_region 10 with (first
    | (go_at_call 49; refine (pack_Read.calls a0 _ _ _ _ _ (Below.refl _ _) rfl).mono ?_; rintro e w2 ⟨g1, rfl, hI, _, hb⟩; have d2 := Aside0.mk (DS.start hw0.out hk0.out (Nat.le_refl _) hI.1 hI.2 hb); clear hI hb)
    | (go_at_call 50; refine (pack_Reader_Text.calls k g1 _ _ _ _ _ _ _ _ w _ (isS_mk d2.out.hr d2.out.rge) d2.out.hB HT.out).mono ?_; rintro e w3 ⟨rfl, hI, hB, hk⟩; have d3 := Aside0.mk (d2.out.keep hk hI.1 hB); clear hI hB hk)
    | (go_at_call 49; refine (pack_Read.calls t _ _ _ _ _ (Below.refl _ _) rfl).mono ?_; rintro e w4 ⟨g2, rfl, hI, _, hb⟩; have d4 := Aside0.mk (d3.out.next hI.1 hI.2 hb); clear hI hb)
    | (go_at_call 51; refine (pack_Reader_Err.calls g1 s1 a1 0 _ _ _ _ w _ (isS_mk (d4.out.blk (.head _)) (d4.out.since (.head _))) d4.out.hB rfl).mono ?_; rintro e w5 ⟨rfl, hI, hB, hk⟩; have d5 := Aside0.mk (d4.out.other (.head _) hk hI.1 hB); clear hI hB hk)
    | (go_at_call 52; refine (pack_Reader_Byte.calls g2 t 0 0 _ _ _ _ w _ (isS_mk d5.out.hr d5.out.rge) d5.out.hB HBy.out).mono ?_; rintro e w6 ⟨rfl, hI, hB, hk⟩; have d6 := Aside0.mk (d5.out.keep hk hI.1 hB); clear hI hB hk)
    | (go_at_call 34; refine (cmd_of.calls k b o1 o2 o3 o4 o5 o6 false _ HO.out).mono ?_; rintro e w7 ⟨rfl, hb⟩; have d7 := Aside0.mk ((d6.out.box (.cells #[.int .i64 b, .string ⟨#[]⟩, .string ⟨#[]⟩, .string ⟨#[]⟩, .int .i64 0, .string ⟨#[]⟩] 23)).below hb); clear hb))
  have d8 := d7.out.box (.cells #[.bool o1, .bool o2, .bool o3, .bool o4, .int .i64 o5, .int .i64 o6] 77)
  generalize hw8 : w7.alloc (.cells #[.bool o1, .bool o2, .bool o3, .bool o4, .int .i64 o5, .int .i64 o6] 77) = w8 at d8 ⊢
  generalize hF : w7.heap.size = F at d8 ⊢
  generalize hC : w6.heap.size = C at d8 ⊢
  clear hw8 hF hC d7 d6 d5 d4 d3 d2 hk0 hw0
  have cR0 := (d8.cell (.tail _ (.tail _ (.tail _ (.head _)))) 0).trans rfl; have cR1 := (d8.cell (.tail _ (.tail _ (.tail _ (.head _)))) 1).trans rfl; have cR2 := (d8.cell (.tail _ (.tail _ (.tail _ (.head _)))) 2).trans rfl; have cR3 := (d8.cell (.tail _ (.tail _ (.tail _ (.head _)))) 3).trans rfl; have cR4 := (d8.cell (.tail _ (.tail _ (.tail _ (.head _)))) 4).trans rfl; have cR5 := (d8.cell (.tail _ (.tail _ (.tail _ (.head _)))) 5).trans rfl; have fR0 := d8.fro (.tail _ (.tail _ (.tail _ (.head _)))) 0; have fR1 := d8.fro (.tail _ (.tail _ (.tail _ (.head _)))) 1; have fR2 := d8.fro (.tail _ (.tail _ (.tail _ (.head _)))) 2; have fR3 := d8.fro (.tail _ (.tail _ (.tail _ (.head _)))) 3; have fR4 := d8.fro (.tail _ (.tail _ (.tail _ (.head _)))) 4; have fR5 := d8.fro (.tail _ (.tail _ (.tail _ (.head _)))) 5
  go_wp2
  have dz := DS.set6 [_, _, _] d8 (.int .i64 0) (.string ⟨#[]⟩) (.string ⟨#[]⟩) (.string ⟨#[]⟩) (.int .i64 0) (.string ⟨#[]⟩)
  dsimp only [List.cons_append, List.nil_append] at dz
  refine bodyPost_ret (results_ctt rfl _ _ w.heap.size 23 #[.int .i64 0, .string ⟨#[]⟩, .string ⟨#[]⟩, .string ⟨#[]⟩, .int .i64 0, .string ⟨#[]⟩] (0, 0) _ rfl (dz.blk (.tail _ (.tail _ (.tail _ (.head _))))) Tryz.underlying23 rfl (by kernel_rfl)) rfl ⟨rfl, dz.hB⟩

set_option maxHeartbeats 8000000 in
set_option maxRecDepth 100000 in
theorem cmd_decode.main (k : Nat) (a0 t s1 : ByteArray) (a1 : Int) (w : World) (b : Int) (T2 : ByteArray) (a2 e2 : Int) (o1 o2 o3 o4 : Bool) (o5 o6 : Int) (HT : Aside0 (pack_Reader_Text.f k a0 0 0 (a0.size : Int) = some (t, s1, a1, 0))) (HBy : Aside0 (pack_Reader_Byte.f t 0 0 = some (b, T2, a2, e2))) (hb0 : 0 ≤ b) (hb1 : b < 256) (HO : Aside0 (cmd_of.f k b = some (o1, o2, o3, o4, o5, o6, true)))
    (h0 : Bool) (hh0 : (b != 16) = h0) (p : ByteArray) (T3 : ByteArray) (a3 e3 : Int) (HP : Aside0 (rdT k h0 T2 a2 e2 = some (p, T3, a3, e3))) (tx : ByteArray) (T4 : ByteArray) (a4 e4 : Int) (HTo : Aside0 (rdT k o1 T3 a3 e3 = some (tx, T4, a4, e4))) (nm : ByteArray) (T5 : ByteArray) (a5 e5 : Int) (HM : Aside0 (rdT k o2 T4 a4 e4 = some (nm, T5, a5, e5)))
    (n : Int) (T6 : ByteArray) (a6 e6 : Int) (HN : Aside0 (rdN k (o4 && (b == 15)) o4 T5 a5 e5 = some (n, T6, a6, e6))) (d : ByteArray) (T7 : ByteArray) (a7 e7 : Int) (HD : Aside0 (rdT k o3 T6 a6 e6 = some (d, T7, a7, e7))) (v8 : Int) (T8 : ByteArray) (a8 e8 : Int) (HE : Aside0 (pack_Reader_End.f T7 a7 e7 = some (v8, T8, a8, e8)))
    (r1 : Int) (r2 r3 r4 : ByteArray) (r5 : Int) (r6 : ByteArray) (r7 : Int) (r8 : Option Int) (HF : Aside0 ((if v8 = 0 then (cmd_check.f k b p tx nm n d).bind fun r => match r with | some _ => some (noCmd 190) | none => some (b, p, tx, nm, n, d, wrap64 ((a0.size : Int) - wrap64 ((s1.size : Int) - a1)), none) else some (noCmd 190)) = some (r1, r2, r3, r4, r5, r6, r7, r8))) (hT : Tabs w)  :
    Calls Tryz.prog 29 #[.string a0] w fun e w' => e = .returned (.tuple #[.agg #[.int .i64 r1, .string r2, .string r3, .string r4, .int .i64 r5, .string r6], .int .i64 r7, errW r8]) ∧ Below w.heap.size w w' := by
  have hw0 := Aside0.mk (show Below w.heap.size w (w.alloc (.cells #[.int .i64 0, .string ⟨#[]⟩, .string ⟨#[]⟩, .string ⟨#[]⟩, .int .i64 0, .string ⟨#[]⟩] 23)) from (Below.refl _ w).alloc (Nat.le_refl _) _)
  have hk0 := Aside0.mk (show (w.alloc (.cells #[.int .i64 0, .string ⟨#[]⟩, .string ⟨#[]⟩, .string ⟨#[]⟩, .int .i64 0, .string ⟨#[]⟩] 23)).heap[w.heap.size]? = some (.cells #[.int .i64 0, .string ⟨#[]⟩, .string ⟨#[]⟩, .string ⟨#[]⟩, .int .i64 0, .string ⟨#[]⟩] 23 (0, 0)) by simpa using heap_alloc_new w _)
  have hwb : IntKind.i64.wrap b = b := by rw [i64_w]; unfold wrap64; omega
  go_enter Tryz.func29, Tryz.ntmps29
  go_upto_region 10 with (first
    | (go_at_call 49; refine (pack_Read.calls a0 _ _ _ _ _ (Below.refl _ _) rfl).mono ?_; rintro e w2 ⟨g1, rfl, hI, _, hb⟩; have d2 := Aside0.mk (DS.start hw0.out hk0.out (Nat.le_refl _) hI.1 hI.2 hb); clear hI hb)
    | (go_at_call 50; refine (pack_Reader_Text.calls k g1 _ _ _ _ _ _ _ _ w _ (isS_mk d2.out.hr d2.out.rge) d2.out.hB HT.out).mono ?_; rintro e w3 ⟨rfl, hI, hB, hk⟩; have d3 := Aside0.mk (d2.out.keep hk hI.1 hB); clear hI hB hk)
    | (go_at_call 49; refine (pack_Read.calls t _ _ _ _ _ (Below.refl _ _) rfl).mono ?_; rintro e w4 ⟨g2, rfl, hI, _, hb⟩; have d4 := Aside0.mk (d3.out.next hI.1 hI.2 hb); clear hI hb)
    | (go_at_call 51; refine (pack_Reader_Err.calls g1 s1 a1 0 _ _ _ _ w _ (isS_mk (d4.out.blk (.head _)) (d4.out.since (.head _))) d4.out.hB rfl).mono ?_; rintro e w5 ⟨rfl, hI, hB, hk⟩; have d5 := Aside0.mk (d4.out.other (.head _) hk hI.1 hB); clear hI hB hk)
    | (go_at_call 52; refine (pack_Reader_Byte.calls g2 t 0 0 _ _ _ _ w _ (isS_mk d5.out.hr d5.out.rge) d5.out.hB HBy.out).mono ?_; rintro e w6 ⟨rfl, hI, hB, hk⟩; have d6 := Aside0.mk (d5.out.keep hk hI.1 hB); clear hI hB hk)
    | (go_at_call 34; refine (cmd_of.calls k b o1 o2 o3 o4 o5 o6 true _ HO.out).mono ?_; rintro e w7 ⟨rfl, hb⟩; have d7 := Aside0.mk ((d6.out.box (.cells #[.int .i64 b, .string ⟨#[]⟩, .string ⟨#[]⟩, .string ⟨#[]⟩, .int .i64 0, .string ⟨#[]⟩] 23)).below hb); clear hb))
  have d8 := d7.out.box (.cells #[.bool o1, .bool o2, .bool o3, .bool o4, .int .i64 o5, .int .i64 o6] 77)
  generalize hw8 : w7.alloc (.cells #[.bool o1, .bool o2, .bool o3, .bool o4, .int .i64 o5, .int .i64 o6] 77) = w8 at d8 ⊢
  generalize hF : w7.heap.size = F at d8 ⊢
  generalize hC : w6.heap.size = C at d8 ⊢
  clear hw8 hF hC d7 d6 d5 d4 d3 d2 hk0 hw0
  have cC0 := (d8.cell (.tail _ (.head _)) 0).trans rfl; have cF0 := (d8.cell (.head _) 0).trans rfl; have cF1 := (d8.cell (.head _) 1).trans rfl
  go_wp2
  try simp only [hh0]
  have d9 := d8.box (.cells #[.bool h0, .pointer (some ⟨C, 1, none⟩), .bool o1, .pointer (some ⟨C, 2, none⟩), .bool o2, .pointer (some ⟨C, 3, none⟩)] 93)
  generalize hw9 : w8.alloc (.cells #[.bool h0, .pointer (some ⟨C, 1, none⟩), .bool o1, .pointer (some ⟨C, 2, none⟩), .bool o2, .pointer (some ⟨C, 3, none⟩)] 93) = w9 at d9 ⊢
  generalize hL : w8.heap.size = L at d9 ⊢
  clear hw9 hL d8 cC0 cF0 cF1
  go_loopw [58] (fun v wr => (v = .int .i64 0 ∧ DS w wr g2 (.cells #[.string T2, .int .i64 a2, .int .i64 e2] 125 (0, 0)) [(L, .cells #[.bool h0, .pointer (some ⟨C, 1, none⟩), .bool o1, .pointer (some ⟨C, 2, none⟩), .bool o2, .pointer (some ⟨C, 3, none⟩)] 93), (F, .cells #[.bool o1, .bool o2, .bool o3, .bool o4, .int .i64 o5, .int .i64 o6] 77), (C, .cells #[.int .i64 b, .string ⟨#[]⟩, .string ⟨#[]⟩, .string ⟨#[]⟩, .int .i64 0, .string ⟨#[]⟩] 23), (g1, .cells #[.string s1, .int .i64 a1, .int .i64 0] 125 (0, 0)), (w.heap.size, .cells #[.int .i64 0, .string ⟨#[]⟩, .string ⟨#[]⟩, .string ⟨#[]⟩, .int .i64 0, .string ⟨#[]⟩] 23)]) ∨ (v = .int .i64 1 ∧ DS w wr g2 (.cells #[.string T3, .int .i64 a3, .int .i64 e3] 125 (0, 0)) [(L, .cells #[.bool h0, .pointer (some ⟨C, 1, none⟩), .bool o1, .pointer (some ⟨C, 2, none⟩), .bool o2, .pointer (some ⟨C, 3, none⟩)] 93), (F, .cells #[.bool o1, .bool o2, .bool o3, .bool o4, .int .i64 o5, .int .i64 o6] 77), (C, .cells #[.int .i64 b, .string p, .string ⟨#[]⟩, .string ⟨#[]⟩, .int .i64 0, .string ⟨#[]⟩] 23), (g1, .cells #[.string s1, .int .i64 a1, .int .i64 0] 125 (0, 0)), (w.heap.size, .cells #[.int .i64 0, .string ⟨#[]⟩, .string ⟨#[]⟩, .string ⟨#[]⟩, .int .i64 0, .string ⟨#[]⟩] 23)]) ∨ (v = .int .i64 2 ∧ DS w wr g2 (.cells #[.string T4, .int .i64 a4, .int .i64 e4] 125 (0, 0)) [(L, .cells #[.bool h0, .pointer (some ⟨C, 1, none⟩), .bool o1, .pointer (some ⟨C, 2, none⟩), .bool o2, .pointer (some ⟨C, 3, none⟩)] 93), (F, .cells #[.bool o1, .bool o2, .bool o3, .bool o4, .int .i64 o5, .int .i64 o6] 77), (C, .cells #[.int .i64 b, .string p, .string tx, .string ⟨#[]⟩, .int .i64 0, .string ⟨#[]⟩] 23), (g1, .cells #[.string s1, .int .i64 a1, .int .i64 0] 125 (0, 0)), (w.heap.size, .cells #[.int .i64 0, .string ⟨#[]⟩, .string ⟨#[]⟩, .string ⟨#[]⟩, .int .i64 0, .string ⟨#[]⟩] 23)]) ∨ (v = .int .i64 3 ∧ DS w wr g2 (.cells #[.string T5, .int .i64 a5, .int .i64 e5] 125 (0, 0)) [(L, .cells #[.bool h0, .pointer (some ⟨C, 1, none⟩), .bool o1, .pointer (some ⟨C, 2, none⟩), .bool o2, .pointer (some ⟨C, 3, none⟩)] 93), (F, .cells #[.bool o1, .bool o2, .bool o3, .bool o4, .int .i64 o5, .int .i64 o6] 77), (C, .cells #[.int .i64 b, .string p, .string tx, .string nm, .int .i64 0, .string ⟨#[]⟩] 23), (g1, .cells #[.string s1, .int .i64 a1, .int .i64 0] 125 (0, 0)), (w.heap.size, .cells #[.int .i64 0, .string ⟨#[]⟩, .string ⟨#[]⟩, .string ⟨#[]⟩, .int .i64 0, .string ⟨#[]⟩] 23)])) (fun v _ => 3 - (intOf v).toNat)
  case atStart => exact .inl ⟨rfl, d9⟩
  case round =>
    clear d9
    rcases hrel with ⟨rfl, ds⟩ | ⟨rfl, ds⟩ | ⟨rfl, ds⟩ | ⟨rfl, ds⟩
    · have l0 := (ds.cell (.head _) 0).trans rfl; have l1 := (ds.cell (.head _) 1).trans rfl
      cases h0 with
      | false =>
        have hq := HP.out
        clear HP
        simp only [rdT, Bool.false_eq_true, if_false, Option.some.injEq, Prod.mk.injEq] at hq
        obtain ⟨rfl, rfl, rfl, rfl⟩ := hq
        go_wp2
        go_roundw
        case rel => exact .inr (.inl ⟨rfl, (ds.box (.cells #[.bool false, .pointer (some ⟨C, 1, none⟩)] 93)).drop⟩)
        case measure => simp [intOf]
      | true =>
        have hq := Aside0.mk (show pack_Reader_Text.f k T2 a2 e2 2000 = some (p, T3, a3, e3) from HP.out)
        go_wp2
        have dx := ds.box (.cells #[.bool true, .pointer (some ⟨C, 1, none⟩)] 93)
        generalize hwx : wr.alloc (.cells #[.bool true, .pointer (some ⟨C, 1, none⟩)] 93) = wx at dx ⊢
        generalize hX : wr.heap.size = X at dx ⊢
        clear hwx hX ds l0 l1
        have dxd := dx.drew
        have cX := (dxd.cell (.head _) 1).trans rfl
        go_region_held3 (fun W' => W'.cell? ⟨X, 1, none⟩ = some (.pointer (some ⟨C, 1, none⟩)))
          (first | exact (dx.cell (.head _) 1).trans rfl | exact (dxd.cell (.head _) 1).trans rfl | exact (dy.cell (.head _) 1).trans rfl | exact ((DS.set [_, _, _] dy 1 (.string p) rfl).cell (.head _) 1).trans rfl)
          ((go_at_call 50; refine (pack_Reader_Text.calls k g2 T2 a2 e2 2000 _ _ _ _ w _ (isS_mk dxd.hr dxd.rge) dxd.hB hq.out).mono ?_; rintro e wy ⟨rfl, hI, hB, hk⟩; have dy := dxd.keep hk hI.1 hB; have cC := (dy.cell (.tail _ (.tail _ (.tail _ (.head _)))) 1).trans rfl; have fC := dy.fro (.tail _ (.tail _ (.tail _ (.head _)))) 1; clear hI hB hk))
        go_wp2
        go_roundw
        case rel => exact .inr (.inl ⟨rfl, (DS.set [_, _, _] dy 1 (.string p) rfl).drop⟩)
        case measure => simp [intOf]
    · have l0 := (ds.cell (.head _) 2).trans rfl; have l1 := (ds.cell (.head _) 3).trans rfl
      cases o1 with
      | false =>
        have hq := HTo.out
        clear HTo
        simp only [rdT, Bool.false_eq_true, if_false, Option.some.injEq, Prod.mk.injEq] at hq
        obtain ⟨rfl, rfl, rfl, rfl⟩ := hq
        go_wp2
        go_roundw
        case rel => exact .inr (.inr (.inl ⟨rfl, (ds.box (.cells #[.bool false, .pointer (some ⟨C, 2, none⟩)] 93)).drop⟩))
        case measure => simp [intOf]
      | true =>
        have hq := Aside0.mk (show pack_Reader_Text.f k T3 a3 e3 2000 = some (tx, T4, a4, e4) from HTo.out)
        go_wp2
        have dx := ds.box (.cells #[.bool true, .pointer (some ⟨C, 2, none⟩)] 93)
        generalize hwx : wr.alloc (.cells #[.bool true, .pointer (some ⟨C, 2, none⟩)] 93) = wx at dx ⊢
        generalize hX : wr.heap.size = X at dx ⊢
        clear hwx hX ds l0 l1
        have dxd := dx.drew
        have cX := (dxd.cell (.head _) 1).trans rfl
        go_region_held3 (fun W' => W'.cell? ⟨X, 1, none⟩ = some (.pointer (some ⟨C, 2, none⟩)))
          (first | exact (dx.cell (.head _) 1).trans rfl | exact (dxd.cell (.head _) 1).trans rfl | exact (dy.cell (.head _) 1).trans rfl | exact ((DS.set [_, _, _] dy 2 (.string tx) rfl).cell (.head _) 1).trans rfl)
          ((go_at_call 50; refine (pack_Reader_Text.calls k g2 T3 a3 e3 2000 _ _ _ _ w _ (isS_mk dxd.hr dxd.rge) dxd.hB hq.out).mono ?_; rintro e wy ⟨rfl, hI, hB, hk⟩; have dy := dxd.keep hk hI.1 hB; have cC := (dy.cell (.tail _ (.tail _ (.tail _ (.head _)))) 2).trans rfl; have fC := dy.fro (.tail _ (.tail _ (.tail _ (.head _)))) 2; clear hI hB hk))
        go_wp2
        go_roundw
        case rel => exact .inr (.inr (.inl ⟨rfl, (DS.set [_, _, _] dy 2 (.string tx) rfl).drop⟩))
        case measure => simp [intOf]
    · have l0 := (ds.cell (.head _) 4).trans rfl; have l1 := (ds.cell (.head _) 5).trans rfl
      cases o2 with
      | false =>
        have hq := HM.out
        clear HM
        simp only [rdT, Bool.false_eq_true, if_false, Option.some.injEq, Prod.mk.injEq] at hq
        obtain ⟨rfl, rfl, rfl, rfl⟩ := hq
        go_wp2
        go_roundw
        case rel => exact .inr (.inr (.inr ⟨rfl, (ds.box (.cells #[.bool false, .pointer (some ⟨C, 3, none⟩)] 93)).drop⟩))
        case measure => simp [intOf]
      | true =>
        have hq := Aside0.mk (show pack_Reader_Text.f k T4 a4 e4 2000 = some (nm, T5, a5, e5) from HM.out)
        go_wp2
        have dx := ds.box (.cells #[.bool true, .pointer (some ⟨C, 3, none⟩)] 93)
        generalize hwx : wr.alloc (.cells #[.bool true, .pointer (some ⟨C, 3, none⟩)] 93) = wx at dx ⊢
        generalize hX : wr.heap.size = X at dx ⊢
        clear hwx hX ds l0 l1
        have dxd := dx.drew
        have cX := (dxd.cell (.head _) 1).trans rfl
        go_region_held3 (fun W' => W'.cell? ⟨X, 1, none⟩ = some (.pointer (some ⟨C, 3, none⟩)))
          (first | exact (dx.cell (.head _) 1).trans rfl | exact (dxd.cell (.head _) 1).trans rfl | exact (dy.cell (.head _) 1).trans rfl | exact ((DS.set [_, _, _] dy 3 (.string nm) rfl).cell (.head _) 1).trans rfl)
          ((go_at_call 50; refine (pack_Reader_Text.calls k g2 T4 a4 e4 2000 _ _ _ _ w _ (isS_mk dxd.hr dxd.rge) dxd.hB hq.out).mono ?_; rintro e wy ⟨rfl, hI, hB, hk⟩; have dy := dxd.keep hk hI.1 hB; have cC := (dy.cell (.tail _ (.tail _ (.tail _ (.head _)))) 3).trans rfl; have fC := dy.fro (.tail _ (.tail _ (.tail _ (.head _)))) 3; clear hI hB hk))
        go_wp2
        go_roundw
        case rel => exact .inr (.inr (.inr ⟨rfl, (DS.set [_, _, _] dy 3 (.string nm) rfl).drop⟩))
        case measure => simp [intOf]
    · have dr := ds.drop
      clear ds
      go_upto_if 59 with (fail)
      go_step
      go_step
      go_step
      go_step
      go_step
      go_step
      go_step
      go_cut [] (fun wc => DS w wc g2 (.cells #[.string T6, .int .i64 a6, .int .i64 e6] 125 (0, 0)) [(F, .cells #[.bool o1, .bool o2, .bool o3, .bool o4, .int .i64 o5, .int .i64 o6] 77), (C, .cells #[.int .i64 b, .string p, .string tx, .string nm, .int .i64 n, .string ⟨#[]⟩] 23), (g1, .cells #[.string s1, .int .i64 a1, .int .i64 0] 125 (0, 0)), (w.heap.size, .cells #[.int .i64 0, .string ⟨#[]⟩, .string ⟨#[]⟩, .string ⟨#[]⟩, .int .i64 0, .string ⟨#[]⟩] 23)])
      case first =>
        have cF3 := (dr.cell (.head _) 3).trans rfl; have cC0 := (dr.cell (.tail _ (.head _)) 0).trans rfl
        cases o4 with
        | false =>
          have hq := HN.out
          simp only [rdN, Bool.false_and, Bool.false_eq_true, if_false, Option.some.injEq, Prod.mk.injEq] at hq
          obtain ⟨rfl, rfl, rfl, rfl⟩ := hq
          clear HN
          go_wp2
          go_meet
          case rel => exact dr
        | true =>
          by_cases h15 : b = 15
          · have e15 : (b == 15) = true := beq_iff_eq.2 h15
            have hq := HN.out
            simp only [rdN, e15, Bool.true_and, if_true] at hq
            obtain ⟨⟨x, Tx, ax, ex⟩, hx, hq⟩ := Option.bind_eq_some_iff.1 hq
            simp only [Option.some.injEq, Prod.mk.injEq] at hq
            obtain ⟨hxn, rfl, rfl, rfl⟩ := hq
            have hx := Aside0.mk hx
            have hwx : IntKind.i64.wrap x = n := by rw [i64_w]; exact hxn
            clear HN hxn
            go_wp2_with ((go_at_call 53; refine (pack_Reader_Fixed.calls k g2 T5 a5 e5 _ _ _ _ w _ (isS_mk dr.hr dr.rge) dr.hB hx.out).mono ?_; rintro e wy ⟨rfl, hI, hB, hk⟩; have dy := dr.keep hk hI.1 hB; have cC4 := (dy.cell (.tail _ (.head _)) 4).trans rfl; have fC4 := dy.fro (.tail _ (.head _)) 4; clear hI hB hk))
            go_meet
            case rel => exact DS.set [_] dy 4 (.int .i64 n) rfl
          · have e15 : (b == 15) = false := beq_eq_false_iff_ne.2 h15
            have hq := HN.out
            simp only [rdN, e15, Bool.and_false, Bool.false_eq_true, if_false, if_true] at hq
            obtain ⟨⟨x, Tx, ax, ex⟩, hx, hq⟩ := Option.bind_eq_some_iff.1 hq
            simp only [Option.some.injEq, Prod.mk.injEq] at hq
            obtain ⟨hxn, rfl, rfl, rfl⟩ := hq
            have hx := Aside0.mk hx
            have hwx : IntKind.i64.wrap x = n := by rw [i64_w]; exact hxn
            clear HN hxn
            go_wp2_with ((go_at_call 54; refine (pack_Reader_Short.calls g2 T5 a5 e5 _ _ _ _ w _ (isS_mk dr.hr dr.rge) dr.hB hx.out).mono ?_; rintro e wy ⟨rfl, hI, hB, hk⟩; have dy := dr.keep hk hI.1 hB; have cC4 := (dy.cell (.tail _ (.head _)) 4).trans rfl; have fC4 := dy.fro (.tail _ (.head _)) 4; clear hI hB hk))
            go_meet
            case rel => exact DS.set [_] dy 4 (.int .i64 n) rfl
      case rest =>
        clear dr
        have dr := hcut
        clear hcut
        go_step
        go_step
        go_cut [] (fun wc => DS w wc g2 (.cells #[.string T7, .int .i64 a7, .int .i64 e7] 125 (0, 0)) [(F, .cells #[.bool o1, .bool o2, .bool o3, .bool o4, .int .i64 o5, .int .i64 o6] 77), (C, .cells #[.int .i64 b, .string p, .string tx, .string nm, .int .i64 n, .string d] 23), (g1, .cells #[.string s1, .int .i64 a1, .int .i64 0] 125 (0, 0)), (w.heap.size, .cells #[.int .i64 0, .string ⟨#[]⟩, .string ⟨#[]⟩, .string ⟨#[]⟩, .int .i64 0, .string ⟨#[]⟩] 23)])
        case first =>
          have cF2 := (dr.cell (.head _) 2).trans rfl
          cases o3 with
          | false =>
            have hq := HD.out
            simp only [rdT, Bool.false_eq_true, if_false, Option.some.injEq, Prod.mk.injEq] at hq
            obtain ⟨rfl, rfl, rfl, rfl⟩ := hq
            clear HD
            go_wp2
            go_meet
            case rel => exact dr
          | true =>
            have hq := Aside0.mk (show pack_Reader_Text.f k T6 a6 e6 2000 = some (d, T7, a7, e7) from HD.out)
            clear HD
            go_wp2_with ((go_at_call 50; refine (pack_Reader_Text.calls k g2 T6 a6 e6 2000 _ _ _ _ w _ (isS_mk dr.hr dr.rge) dr.hB hq.out).mono ?_; rintro e wy ⟨rfl, hI, hB, hk⟩; have dy := dr.keep hk hI.1 hB; have cC5 := (dy.cell (.tail _ (.head _)) 5).trans rfl; have fC5 := dy.fro (.tail _ (.head _)) 5; clear hI hB hk))
            go_meet
            case rel => exact DS.set [_] dy 5 (.string d) rfl
        case rest =>
          clear dr
          have dr := hcut
          clear hcut
          have h := HF.out
          clear HF
          by_cases hv8 : v8 = 0
          · subst hv8
            rw [if_pos rfl] at h
            obtain ⟨r, hr, h⟩ := Option.bind_eq_some_iff.1 h
            have HR := Aside0.mk hr
            clear hr
            cases r with
            | some c =>
              simp only [noCmd, Option.some.injEq, Prod.mk.injEq] at h
              obtain ⟨rfl, rfl, rfl, rfl, rfl, rfl, rfl, rfl⟩ := h
              go_wp2_with (first
                | (go_at_call 55; refine (pack_Reader_End.calls g2 T7 a7 e7 _ T8 a8 e8 w _ (isS_mk dr.hr dr.rge) dr.hB HE.out).mono ?_; rintro e we ⟨rfl, hI, hB, hk⟩; have dE := dr.keep hk hI.1 hB; have cC0 := (dE.cell (.tail _ (.head _)) 0).trans rfl; have cC1 := (dE.cell (.tail _ (.head _)) 1).trans rfl; have cC2 := (dE.cell (.tail _ (.head _)) 2).trans rfl; have cC3 := (dE.cell (.tail _ (.head _)) 3).trans rfl; have cC4 := (dE.cell (.tail _ (.head _)) 4).trans rfl; have cC5 := (dE.cell (.tail _ (.head _)) 5).trans rfl; clear hI hB hk)
                | (go_at_call 28; refine (cmd_check.calls k _ _ _ _ _ _ _ _ (Tabs.on hT dE.hB) HR.out).mono ?_; rintro e wz ⟨rfl, hb⟩; have dZ := dE.below hb; have cR0 := (dZ.cell (.tail _ (.tail _ (.tail _ (.head _)))) 0).trans rfl; have cR1 := (dZ.cell (.tail _ (.tail _ (.tail _ (.head _)))) 1).trans rfl; have cR2 := (dZ.cell (.tail _ (.tail _ (.tail _ (.head _)))) 2).trans rfl; have cR3 := (dZ.cell (.tail _ (.tail _ (.tail _ (.head _)))) 3).trans rfl; have cR4 := (dZ.cell (.tail _ (.tail _ (.tail _ (.head _)))) 4).trans rfl; have cR5 := (dZ.cell (.tail _ (.tail _ (.tail _ (.head _)))) 5).trans rfl; have fR0 := dZ.fro (.tail _ (.tail _ (.tail _ (.head _)))) 0; have fR1 := dZ.fro (.tail _ (.tail _ (.tail _ (.head _)))) 1; have fR2 := dZ.fro (.tail _ (.tail _ (.tail _ (.head _)))) 2; have fR3 := dZ.fro (.tail _ (.tail _ (.tail _ (.head _)))) 3; have fR4 := dZ.fro (.tail _ (.tail _ (.tail _ (.head _)))) 4; have fR5 := dZ.fro (.tail _ (.tail _ (.tail _ (.head _)))) 5; clear hb; simp only [errW_some]))
              have dz := DS.set6 [_, _, _] dZ (.int .i64 0) (.string ⟨#[]⟩) (.string ⟨#[]⟩) (.string ⟨#[]⟩) (.int .i64 0) (.string ⟨#[]⟩)
              dsimp only [List.cons_append, List.nil_append] at dz
              refine bodyPost_ret (results_ctt rfl _ _ w.heap.size 23 #[.int .i64 0, .string ⟨#[]⟩, .string ⟨#[]⟩, .string ⟨#[]⟩, .int .i64 0, .string ⟨#[]⟩] (0, 0) _ rfl (dz.blk (.tail _ (.tail _ (.tail _ (.head _))))) Tryz.underlying23 rfl (by kernel_rfl)) rfl ⟨by first | rfl | (simp only [i64_w]; rfl), dz.hB⟩
            | none =>
              simp only [Option.some.injEq, Prod.mk.injEq] at h
              obtain ⟨rfl, rfl, rfl, rfl, rfl, rfl, rfl, rfl⟩ := h
              go_upto_region 26 with (first
                | (go_at_call 55; refine (pack_Reader_End.calls g2 T7 a7 e7 _ T8 a8 e8 w _ (isS_mk dr.hr dr.rge) dr.hB HE.out).mono ?_; rintro e we ⟨rfl, hI, hB, hk⟩; have dE := dr.keep hk hI.1 hB; have cC0 := (dE.cell (.tail _ (.head _)) 0).trans rfl; have cC1 := (dE.cell (.tail _ (.head _)) 1).trans rfl; have cC2 := (dE.cell (.tail _ (.head _)) 2).trans rfl; have cC3 := (dE.cell (.tail _ (.head _)) 3).trans rfl; have cC4 := (dE.cell (.tail _ (.head _)) 4).trans rfl; have cC5 := (dE.cell (.tail _ (.head _)) 5).trans rfl; clear hI hB hk)
                | (go_at_call 28; refine (cmd_check.calls k _ _ _ _ _ _ _ _ (Tabs.on hT dE.hB) HR.out).mono ?_; rintro e wz ⟨rfl, hb⟩; have dZ := dE.below hb; skip; clear hb; simp only [errW_none]))
              have dZd := dZ.drew
              have zc0 : wz.drew.cell? ⟨C, 0, none⟩ = some (.int .i64 b) := (dZd.cell (.tail _ (.head _)) 0).trans rfl; have zc1 : wz.drew.cell? ⟨C, 1, none⟩ = some (.string p) := (dZd.cell (.tail _ (.head _)) 1).trans rfl; have zc2 : wz.drew.cell? ⟨C, 2, none⟩ = some (.string tx) := (dZd.cell (.tail _ (.head _)) 2).trans rfl; have zc3 : wz.drew.cell? ⟨C, 3, none⟩ = some (.string nm) := (dZd.cell (.tail _ (.head _)) 3).trans rfl; have zc4 : wz.drew.cell? ⟨C, 4, none⟩ = some (.int .i64 n) := (dZd.cell (.tail _ (.head _)) 4).trans rfl; have zc5 : wz.drew.cell? ⟨C, 5, none⟩ = some (.string d) := (dZd.cell (.tail _ (.head _)) 5).trans rfl
              clear cC0 cC1 cC2 cC3 cC4 cC5
              go_region_held3 (fun W' => W'.cell? ⟨C, 0, none⟩ = some (.int .i64 b) ∧ W'.cell? ⟨C, 1, none⟩ = some (.string p) ∧ W'.cell? ⟨C, 2, none⟩ = some (.string tx) ∧ W'.cell? ⟨C, 3, none⟩ = some (.string nm) ∧ W'.cell? ⟨C, 4, none⟩ = some (.int .i64 n) ∧ W'.cell? ⟨C, 5, none⟩ = some (.string d))
                (first | (with_reducible exact ⟨zc0, zc1, zc2, zc3, zc4, zc5⟩) | (with_reducible exact ⟨lc0, lc1, lc2, lc3, lc4, lc5⟩) | exact ⟨((DS.set6 [_, _, _] dL (.int .i64 b) (.string p) (.string tx) (.string nm) (.int .i64 n) (.string d)).cell (.tail _ (.head _)) 0).trans rfl, ((DS.set6 [_, _, _] dL (.int .i64 b) (.string p) (.string tx) (.string nm) (.int .i64 n) (.string d)).cell (.tail _ (.head _)) 1).trans rfl, ((DS.set6 [_, _, _] dL (.int .i64 b) (.string p) (.string tx) (.string nm) (.int .i64 n) (.string d)).cell (.tail _ (.head _)) 2).trans rfl, ((DS.set6 [_, _, _] dL (.int .i64 b) (.string p) (.string tx) (.string nm) (.int .i64 n) (.string d)).cell (.tail _ (.head _)) 3).trans rfl, ((DS.set6 [_, _, _] dL (.int .i64 b) (.string p) (.string tx) (.string nm) (.int .i64 n) (.string d)).cell (.tail _ (.head _)) 4).trans rfl, ((DS.set6 [_, _, _] dL (.int .i64 b) (.string p) (.string tx) (.string nm) (.int .i64 n) (.string d)).cell (.tail _ (.head _)) 5).trans rfl⟩)
                ((go_at_call 56; refine (pack_Reader_Left.calls g1 s1 a1 0 _ _ _ _ w _ (isS_mk (dZd.blk (.tail _ (.tail _ (.head _)))) (dZd.since (.tail _ (.tail _ (.head _))))) dZd.hB (left_ok s1 a1)).mono ?_; rintro e wl ⟨rfl, hI, hB, hk⟩; have dL := dZd.other (.tail _ (.tail _ (.head _))) hk hI.1 hB; have lc0 : wl.cell? ⟨C, 0, none⟩ = some (.int .i64 b) := (dL.cell (.tail _ (.head _)) 0).trans rfl; have lc1 : wl.cell? ⟨C, 1, none⟩ = some (.string p) := (dL.cell (.tail _ (.head _)) 1).trans rfl; have lc2 : wl.cell? ⟨C, 2, none⟩ = some (.string tx) := (dL.cell (.tail _ (.head _)) 2).trans rfl; have lc3 : wl.cell? ⟨C, 3, none⟩ = some (.string nm) := (dL.cell (.tail _ (.head _)) 3).trans rfl; have lc4 : wl.cell? ⟨C, 4, none⟩ = some (.int .i64 n) := (dL.cell (.tail _ (.head _)) 4).trans rfl; have lc5 : wl.cell? ⟨C, 5, none⟩ = some (.string d) := (dL.cell (.tail _ (.head _)) 5).trans rfl; have cR0 := (dL.cell (.tail _ (.tail _ (.tail _ (.head _)))) 0).trans rfl; have cR1 := (dL.cell (.tail _ (.tail _ (.tail _ (.head _)))) 1).trans rfl; have cR2 := (dL.cell (.tail _ (.tail _ (.tail _ (.head _)))) 2).trans rfl; have cR3 := (dL.cell (.tail _ (.tail _ (.tail _ (.head _)))) 3).trans rfl; have cR4 := (dL.cell (.tail _ (.tail _ (.tail _ (.head _)))) 4).trans rfl; have cR5 := (dL.cell (.tail _ (.tail _ (.tail _ (.head _)))) 5).trans rfl; have fR0 := dL.fro (.tail _ (.tail _ (.tail _ (.head _)))) 0; have fR1 := dL.fro (.tail _ (.tail _ (.tail _ (.head _)))) 1; have fR2 := dL.fro (.tail _ (.tail _ (.tail _ (.head _)))) 2; have fR3 := dL.fro (.tail _ (.tail _ (.tail _ (.head _)))) 3; have fR4 := dL.fro (.tail _ (.tail _ (.tail _ (.head _)))) 4; have fR5 := dL.fro (.tail _ (.tail _ (.tail _ (.head _)))) 5; clear hI hB hk))
              go_wp2
              have dz := DS.set6 [_, _, _] dL (.int .i64 b) (.string p) (.string tx) (.string nm) (.int .i64 n) (.string d)
              dsimp only [List.cons_append, List.nil_append] at dz
              refine bodyPost_ret (results_ctt rfl _ _ w.heap.size 23 #[.int .i64 b, .string p, .string tx, .string nm, .int .i64 n, .string d] (0, 0) _ rfl (dz.blk (.tail _ (.tail _ (.tail _ (.head _))))) Tryz.underlying23 rfl (by kernel_rfl)) rfl ⟨by first | rfl | (simp only [i64_w]; rfl), dz.hB⟩
          · rw [if_neg hv8] at h
            simp only [noCmd, Option.some.injEq, Prod.mk.injEq] at h
            obtain ⟨rfl, rfl, rfl, rfl, rfl, rfl, rfl, rfl⟩ := h
            have ev : (v8 != 0) = true := bne_iff_ne.2 hv8
            go_wp2_with ((go_at_call 55; refine (pack_Reader_End.calls g2 T7 a7 e7 _ T8 a8 e8 w _ (isS_mk dr.hr dr.rge) dr.hB HE.out).mono ?_; rintro e we ⟨rfl, hI, hB, hk⟩; have dE := dr.keep hk hI.1 hB; have cR0 := (dE.cell (.tail _ (.tail _ (.tail _ (.head _)))) 0).trans rfl; have cR1 := (dE.cell (.tail _ (.tail _ (.tail _ (.head _)))) 1).trans rfl; have cR2 := (dE.cell (.tail _ (.tail _ (.tail _ (.head _)))) 2).trans rfl; have cR3 := (dE.cell (.tail _ (.tail _ (.tail _ (.head _)))) 3).trans rfl; have cR4 := (dE.cell (.tail _ (.tail _ (.tail _ (.head _)))) 4).trans rfl; have cR5 := (dE.cell (.tail _ (.tail _ (.tail _ (.head _)))) 5).trans rfl; have fR0 := dE.fro (.tail _ (.tail _ (.tail _ (.head _)))) 0; have fR1 := dE.fro (.tail _ (.tail _ (.tail _ (.head _)))) 1; have fR2 := dE.fro (.tail _ (.tail _ (.tail _ (.head _)))) 2; have fR3 := dE.fro (.tail _ (.tail _ (.tail _ (.head _)))) 3; have fR4 := dE.fro (.tail _ (.tail _ (.tail _ (.head _)))) 4; have fR5 := dE.fro (.tail _ (.tail _ (.tail _ (.head _)))) 5; clear hI hB hk))
            have dz := DS.set6 [_, _, _] dE (.int .i64 0) (.string ⟨#[]⟩) (.string ⟨#[]⟩) (.string ⟨#[]⟩) (.int .i64 0) (.string ⟨#[]⟩)
            dsimp only [List.cons_append, List.nil_append] at dz
            refine bodyPost_ret (results_ctt rfl _ _ w.heap.size 23 #[.int .i64 0, .string ⟨#[]⟩, .string ⟨#[]⟩, .string ⟨#[]⟩, .int .i64 0, .string ⟨#[]⟩] (0, 0) _ rfl (dz.blk (.tail _ (.tail _ (.tail _ (.head _))))) Tryz.underlying23 rfl (by kernel_rfl)) rfl ⟨by first | rfl | (simp only [i64_w]; rfl), dz.hB⟩

set_option maxHeartbeats 1000000 in
theorem cmd_decode.calls (k : Nat) (a0 : ByteArray) (r1 : Int) (r2 r3 r4 : ByteArray) (r5 : Int) (r6 : ByteArray) (r7 : Int) (r8 : Option Int) (w : World) (hT : Tabs w) (h : cmd_decode.f k a0 = some (r1, r2, r3, r4, r5, r6, r7, r8)) :
    Calls Tryz.prog 29 #[.string a0] w fun e w' => e = .returned (.tuple #[.agg #[.int .i64 r1, .string r2, .string r3, .string r4, .int .i64 r5, .string r6], .int .i64 r7, errW r8]) ∧ Below w.heap.size w w' := by
  unfold cmd_decode.f at h
  obtain ⟨⟨t, s1, a1, e1⟩, hT1, h⟩ := Option.bind_eq_some_iff.1 h
  dsimp only at h
  by_cases h1 : e1 = 0
  · subst h1
    rw [if_pos rfl] at h
    obtain ⟨⟨b, T2, a2, e2⟩, hB, h⟩ := Option.bind_eq_some_iff.1 h
    dsimp only at h
    by_cases hb : 0 ≤ b ∧ b < 256
    · rw [if_pos hb] at h
      obtain ⟨⟨o1, o2, o3, o4, o5, o6, o7⟩, hO, h⟩ := Option.bind_eq_some_iff.1 h
      dsimp only at h
      cases o7 with
      | false =>
        rw [if_neg (by decide)] at h
        simp only [noCmd, Option.some.injEq, Prod.mk.injEq] at h
        obtain ⟨rfl, rfl, rfl, rfl, rfl, rfl, rfl, rfl⟩ := h
        rw [errW_some]
        exact cmd_decode.bad2 k a0 t s1 a1 b T2 a2 e2 o1 o2 o3 o4 o5 o6 ⟨hT1⟩ ⟨hB⟩ hb.1 hb.2 ⟨hO⟩ w
      | true =>
        rw [if_pos rfl] at h
        obtain ⟨⟨p, T3, a3, e3⟩, h3, h⟩ := Option.bind_eq_some_iff.1 h
        obtain ⟨⟨tx, T4, a4, e4⟩, h4, h⟩ := Option.bind_eq_some_iff.1 h
        obtain ⟨⟨nm, T5, a5, e5⟩, h5, h⟩ := Option.bind_eq_some_iff.1 h
        obtain ⟨⟨n, T6, a6, e6⟩, h6, h⟩ := Option.bind_eq_some_iff.1 h
        obtain ⟨⟨d, T7, a7, e7⟩, h7, h⟩ := Option.bind_eq_some_iff.1 h
        obtain ⟨⟨v8, T8, a8, e8⟩, h8, h⟩ := Option.bind_eq_some_iff.1 h
        exact cmd_decode.main k a0 t s1 a1 w b T2 a2 e2 o1 o2 o3 o4 o5 o6 ⟨hT1⟩ ⟨hB⟩ hb.1 hb.2 ⟨hO⟩ _ rfl p T3 a3 e3 ⟨h3⟩ tx T4 a4 e4 ⟨h4⟩ nm T5 a5 e5 ⟨h5⟩ n T6 a6 e6 ⟨h6⟩ d T7 a7 e7 ⟨h7⟩ v8 T8 a8 e8 ⟨h8⟩ r1 r2 r3 r4 r5 r6 r7 r8 ⟨h⟩ hT
    · rw [if_neg hb] at h; cases h
  · rw [if_neg h1] at h
    simp only [noCmd, Option.some.injEq, Prod.mk.injEq] at h
    obtain ⟨rfl, rfl, rfl, rfl, rfl, rfl, rfl, rfl⟩ := h
    exact cmd_decode.bad1 k a0 t s1 a1 e1 ⟨hT1⟩ (beq_eq_false_iff_ne.2 h1) _ rfl w


end Go.Proofs.YtofdpgcnconibaaGreatDoor.PA
