-- WRITTEN BY a program of this session (pp.sh)
import Derived.Test.YtofdpgcnconibaaGreatDoorPAx0
import Derived.Test.YtofdpgcnconibaaGreatDoorPAx18
set_option linter.unusedVariables false
set_option linter.unusedSimpArgs false
namespace Go.Proofs.YtofdpgcnconibaaGreatDoor.PA
open Go.RowKit Go.Proofs.YtofdpgcnconibaaGreatDoorW.PrintWords Go.Proofs.YtofdpgcnconibaaGreatDoorW.PrintLast Go.Proofs.YtofdpgcnconibaaGreatDoorW.PrintMore Go.Proofs.YtofdpgcnconibaaGreatDoor.Plain
attribute [local go_sem] max2_int min2_int max_two min_two max_three min_three max_four min_four binOp_leq_s binOp_gtr_s binOp_geq_s lit_byte   -- for this text's walks alone
set_option linter.unusedVariables false
set_option linter.unusedSimpArgs false

/-! ### coppiceref19_Right: function 23 -/
mutual
def coppiceref19_Right.j0 : Nat → Bool → Int → ByteArray → ByteArray → ByteArray → Int → ByteArray → Option (Bool)
 | 0, _, _, _, _, _, _, _ => none
 | k + 1, x16, x200000, x200001, x200002, x200003, x200004, x200005 => if x16 = true then (some false) else ((coppiceref19_Has.f x200000).bind fun bt200 => (if x200000 = 16 then (if x200001.toList = ([] : List UInt8) then (if bt200.1 = true then ((coppiceref19_loose.f k x200002).bind fun t204 => (if t204 = true then (coppiceref19_Right.j1 k bt200.2.1 bt200.2.2.1 bt200.2.2.2 false x200000 x200001 x200002 x200003 x200004 x200005) else (coppiceref19_Right.j1 k bt200.2.1 bt200.2.2.1 bt200.2.2.2 true x200000 x200001 x200002 x200003 x200004 x200005))) else (coppiceref19_Right.j1 k bt200.2.1 bt200.2.2.1 bt200.2.2.2 (x200002.toList != ([] : List UInt8)) x200000 x200001 x200002 x200003 x200004 x200005)) else (coppiceref19_Right.j1 k bt200.2.1 bt200.2.2.1 bt200.2.2.2 true x200000 x200001 x200002 x200003 x200004 x200005)) else ((coppiceref19_loose.f k x200001).bind fun t205 => (if t205 = true then (if bt200.1 = true then ((coppiceref19_loose.f k x200002).bind fun t206 => (if t206 = true then (coppiceref19_Right.j1 k bt200.2.1 bt200.2.2.1 bt200.2.2.2 false x200000 x200001 x200002 x200003 x200004 x200005) else (coppiceref19_Right.j1 k bt200.2.1 bt200.2.2.1 bt200.2.2.2 true x200000 x200001 x200002 x200003 x200004 x200005))) else (coppiceref19_Right.j1 k bt200.2.1 bt200.2.2.1 bt200.2.2.2 (x200002.toList != ([] : List UInt8)) x200000 x200001 x200002 x200003 x200004 x200005)) else (coppiceref19_Right.j1 k bt200.2.1 bt200.2.2.1 bt200.2.2.2 true x200000 x200001 x200002 x200003 x200004 x200005)))))
def coppiceref19_Right.j1 : Nat → Bool → Bool → Bool → Bool → Int → ByteArray → ByteArray → ByteArray → Int → ByteArray → Option (Bool)
 | 0, _, _, _, _, _, _, _, _, _, _ => none
 | k + 1, x4, x5, x6, x61, x200000, x200001, x200002, x200003, x200004, x200005 => if x61 = true then (some false) else (if x4 = true then ((coppiceref12_Name.f k x200003).bind fun t207 => (if t207 = true then (if x5 = true then (if x6 = true then (coppiceref19_Right.j2 k x5 false x200000 x200001 x200002 x200003 x200004 x200005) else (coppiceref19_Right.j2 k x5 (x200005.toList != ([] : List UInt8)) x200000 x200001 x200002 x200003 x200004 x200005)) else (if x200004 = 0 then (if x6 = true then (coppiceref19_Right.j2 k x5 false x200000 x200001 x200002 x200003 x200004 x200005) else (coppiceref19_Right.j2 k x5 (x200005.toList != ([] : List UInt8)) x200000 x200001 x200002 x200003 x200004 x200005)) else (coppiceref19_Right.j2 k x5 true x200000 x200001 x200002 x200003 x200004 x200005))) else (coppiceref19_Right.j2 k x5 true x200000 x200001 x200002 x200003 x200004 x200005))) else (if x200003.toList = ([] : List UInt8) then (if x5 = true then (if x6 = true then (coppiceref19_Right.j2 k x5 false x200000 x200001 x200002 x200003 x200004 x200005) else (coppiceref19_Right.j2 k x5 (x200005.toList != ([] : List UInt8)) x200000 x200001 x200002 x200003 x200004 x200005)) else (if x200004 = 0 then (if x6 = true then (coppiceref19_Right.j2 k x5 false x200000 x200001 x200002 x200003 x200004 x200005) else (coppiceref19_Right.j2 k x5 (x200005.toList != ([] : List UInt8)) x200000 x200001 x200002 x200003 x200004 x200005)) else (coppiceref19_Right.j2 k x5 true x200000 x200001 x200002 x200003 x200004 x200005))) else (coppiceref19_Right.j2 k x5 true x200000 x200001 x200002 x200003 x200004 x200005)))
def coppiceref19_Right.j2 : Nat → Bool → Bool → Int → ByteArray → ByteArray → ByteArray → Int → ByteArray → Option (Bool)
 | 0, _, _, _, _, _, _, _, _ => none
 | k + 1, x5, x95, x200000, x200001, x200002, x200003, x200004, x200005 => if x95 = true then (some false) else ((coppiceref19_bounds.f k x200000).bind fun bt208 => (if x5 = true then (if x200004 < bt208.1 then (some false) else (if x200004 > bt208.2 then (some false) else (if x200000 = 3 then ((coppiceref12_Target.f k x200005).bind fun t210 => (if t210 = true then (if x200000 = 9 then (if (x200005.size : Int) = 64 then (if x200000 = 12 then (some (!(decide ((x200005.size : Int) > 120)))) else (some (!false))) else (some (!true))) else (if x200000 = 12 then (some (!(decide ((x200005.size : Int) > 120)))) else (some (!false)))) else (some (!true)))) else (if x200000 = 9 then (if (x200005.size : Int) = 64 then (if x200000 = 12 then (some (!(decide ((x200005.size : Int) > 120)))) else (some (!false))) else (some (!true))) else (if x200000 = 12 then (some (!(decide ((x200005.size : Int) > 120)))) else (some (!false))))))) else (if x200000 = 3 then ((coppiceref12_Target.f k x200005).bind fun t211 => (if t211 = true then (if x200000 = 9 then (if (x200005.size : Int) = 64 then (if x200000 = 12 then (some (!(decide ((x200005.size : Int) > 120)))) else (some (!false))) else (some (!true))) else (if x200000 = 12 then (some (!(decide ((x200005.size : Int) > 120)))) else (some (!false)))) else (some (!true)))) else (if x200000 = 9 then (if (x200005.size : Int) = 64 then (if x200000 = 12 then (some (!(decide ((x200005.size : Int) > 120)))) else (some (!false))) else (some (!true))) else (if x200000 = 12 then (some (!(decide ((x200005.size : Int) > 120)))) else (some (!false)))))))
end
def coppiceref19_Right.f (k : Nat) (a0_0 : Int) (a0_1 : ByteArray) (a0_2 : ByteArray) (a0_3 : ByteArray) (a0_4 : Int) (a0_5 : ByteArray) : Option (Bool) := if a0_0 < 1 then (coppiceref19_Right.j0 k true a0_0 a0_1 a0_2 a0_3 a0_4 a0_5) else (coppiceref19_Right.j0 k (decide (a0_0 > 16)) a0_0 a0_1 a0_2 a0_3 a0_4 a0_5)
set_option maxHeartbeats 8000000 in
set_option maxRecDepth 100000 in
theorem coppiceref19_Right.calls (k : Nat) (a0_0 : Int) (a0_1 : ByteArray) (a0_2 : ByteArray) (a0_3 : ByteArray) (a0_4 : Int) (a0_5 : ByteArray) (r : Bool) (w : World) (h : coppiceref19_Right.f k a0_0 a0_1 a0_2 a0_3 a0_4 a0_5 = some r) :
  Calls Tryz.prog 23 #[.agg #[.int .i64 a0_0, .string a0_1, .string a0_2, .string a0_3, .int .i64 a0_4, .string a0_5]] w fun e w' => e = .returned (.bool r) ∧ Below w.heap.size w w' := by
 have hu23 := Tryz.underlying23
 have HB := Aside0.mk (Below.refl w.heap.size w)
 have H : (if a0_0 < 1 then (coppiceref19_Right.j0 k true a0_0 a0_1 a0_2 a0_3 a0_4 a0_5) else (coppiceref19_Right.j0 k (decide (a0_0 > 16)) a0_0 a0_1 a0_2 a0_3 a0_4 a0_5)) = some r := h
 clear h
 have HC2 := Aside0.mk H
 clear H
 go_enter Tryz.func23, Tryz.ntmps23
 go_upto_region 1 with (first | ((with_reducible refine gate_dst (N := 1) rfl ?_); (try (refine gate_guard (by rfl) ?_; dsimp only)); refine box_event ?hg (N := 1) ?hd (cs := #[.int .i64 a0_0, .string a0_1, .string a0_2, .string a0_3, .int .i64 a0_4, .string a0_5]) (t := 23) ?hr ?_; (case hd => rfl); (case hg => rfl); (case hr => ((go_simp; done))); intro qc hg w3 hbox hb; have n0_ := Aside0.mk (below_step (by repeat (((with_reducible (exact HB.out))))) hb); have n1_ := Aside0.mk (hbox); have n2_ := Aside0.mk ((by rw [hg]; exact (below_size (by repeat (((with_reducible (exact HB.out)))))) : w.heap.size ≤ qc)); have n3_ := Aside0.mk ((by rw [hg]; exact (below_size (by repeat (((with_reducible (exact HB.out)))))) : w.heap.size ≤ qc)); clear HB; have HB := n0_; have qb := n1_; have GW199 := n2_; have qy := n3_; clear n0_ n1_ n2_ n3_; clear hb hbox hg))
 (try simp only [Act.put, List.setIfInBounds_toArray, List.set_cons_zero, List.set_cons_succ])
 go_cut [16] (fun qw wc => ∃ (kq : Nat) (qs : Bool), qw = .bool qs ∧ Aside0 (coppiceref19_Right.j0 kq qs a0_0 a0_1 a0_2 a0_3 a0_4 a0_5 = some r) ∧ Aside0 (kq ≤ k) ∧ Aside0 (wc.heap[qc]? = some (.cells #[.int .i64 a0_0, .string a0_1, .string a0_2, .string a0_3, .int .i64 a0_4, .string a0_5] 23 (0, 0))) ∧ Aside0 (Below w.heap.size w wc))
 case first => as_aux_lemma =>
  have H := HC2.out
  clear HC2
  by_cases c4 : a0_0 < 1
  ·rw [if_pos c4] at H
   have c4b0 : decide (a0_0 < 1) = true := decide_eq_true c4
   clear c4
   ((skip))
   have H' := Aside0.mk H
   clear H
   have hcz5_0 : w3.cell? ⟨qc, 0, none⟩ = some (.int .i64 a0_0) := (blk_cell qb.out 0).trans rfl
   have hcz5_1 : w3.cell? ⟨qc, 1, none⟩ = some (.string a0_1) := (blk_cell qb.out 1).trans rfl
   have hcz5_2 : w3.cell? ⟨qc, 2, none⟩ = some (.string a0_2) := (blk_cell qb.out 2).trans rfl
   have hcz5_3 : w3.cell? ⟨qc, 3, none⟩ = some (.string a0_3) := (blk_cell qb.out 3).trans rfl
   have hcz5_4 : w3.cell? ⟨qc, 4, none⟩ = some (.int .i64 a0_4) := (blk_cell qb.out 4).trans rfl
   have hcz5_5 : w3.cell? ⟨qc, 5, none⟩ = some (.string a0_5) := (blk_cell qb.out 5).trans rfl
   have hfz5_0 := blk_frozen qb.out 0
   have hfz5_1 := blk_frozen qb.out 1
   have hfz5_2 := blk_frozen qb.out 2
   have hfz5_3 := blk_frozen qb.out 3
   have hfz5_4 := blk_frozen qb.out 4
   have hfz5_5 := blk_frozen qb.out 5
   go_wp2
   go_meet
   case rel => exact ⟨_, (true), (by (rfl)), H', ⟨by (omega)⟩, ⟨by exact qb.out⟩, ⟨by repeat (((with_reducible (exact HB.out))))⟩⟩
  ·rw [if_neg c4] at H
   have c4b0 : decide (a0_0 < 1) = false := decide_eq_false c4
   clear c4
   ((skip))
   have H' := Aside0.mk H
   clear H
   have hcz6_0 : w3.cell? ⟨qc, 0, none⟩ = some (.int .i64 a0_0) := (blk_cell qb.out 0).trans rfl
   have hcz6_1 : w3.cell? ⟨qc, 1, none⟩ = some (.string a0_1) := (blk_cell qb.out 1).trans rfl
   have hcz6_2 : w3.cell? ⟨qc, 2, none⟩ = some (.string a0_2) := (blk_cell qb.out 2).trans rfl
   have hcz6_3 : w3.cell? ⟨qc, 3, none⟩ = some (.string a0_3) := (blk_cell qb.out 3).trans rfl
   have hcz6_4 : w3.cell? ⟨qc, 4, none⟩ = some (.int .i64 a0_4) := (blk_cell qb.out 4).trans rfl
   have hcz6_5 : w3.cell? ⟨qc, 5, none⟩ = some (.string a0_5) := (blk_cell qb.out 5).trans rfl
   have hfz6_0 := blk_frozen qb.out 0
   have hfz6_1 := blk_frozen qb.out 1
   have hfz6_2 := blk_frozen qb.out 2
   have hfz6_3 := blk_frozen qb.out 3
   have hfz6_4 := blk_frozen qb.out 4
   have hfz6_5 := blk_frozen qb.out 5
   go_wp2
   go_meet
   case rel => exact ⟨_, (decide (a0_0 > 16)), (by (rfl)), H', ⟨by (omega)⟩, ⟨by exact qb.out⟩, ⟨by repeat (((with_reducible (exact HB.out))))⟩⟩
 case rest => as_aux_lemma =>
  clear HC2
  try clear c2
  try clear p2
  try clear c4
  try clear c4b0
  try clear hcz5_0
  try clear hcz5_1
  try clear hcz5_2
  try clear hcz5_3
  try clear hcz5_4
  try clear hcz5_5
  try clear hcz6_0
  try clear hcz6_1
  try clear hcz6_2
  try clear hcz6_3
  try clear hcz6_4
  try clear hcz6_5
  try clear hfz5_0
  try clear hfz5_1
  try clear hfz5_2
  try clear hfz5_3
  try clear hfz5_4
  try clear hfz5_5
  try clear hfz6_0
  try clear hfz6_1
  try clear hfz6_2
  try clear hfz6_3
  try clear hfz6_4
  try clear hfz6_5
  obtain ⟨kq, qs, rfl, HA, HJ1, qb, HB⟩ := hcut
  cases kq with
  | zero => exact absurd HA.out (by simp [coppiceref19_Right.j0])
  | succ kj1 =>
   have H := HA.out
   clear HA
   simp only [coppiceref19_Right.j0] at H
   by_cases c7 : qs = true
   ·subst c7
    have H1 : (some false) = some r := by rw [if_pos rfl] at H; exact H
    clear H
    have H := H1
    clear H1
    obtain rfl := Option.some.inj H
    go_wp2
    go_ret
    exact ⟨by (rfl), by repeat (((with_reducible (exact HB.out))))⟩
   ·replace c7 := Bool.eq_false_iff.mpr c7
    subst c7
    have H1 : ((coppiceref19_Has.f a0_0).bind fun qg => (if a0_0 = 16 then (if a0_1.toList = ([] : List UInt8) then (if qg.1 = true then ((coppiceref19_loose.f kj1 a0_2).bind fun qm => (if qm = true then (coppiceref19_Right.j1 kj1 qg.2.1 qg.2.2.1 qg.2.2.2 false a0_0 a0_1 a0_2 a0_3 a0_4 a0_5) else (coppiceref19_Right.j1 kj1 qg.2.1 qg.2.2.1 qg.2.2.2 true a0_0 a0_1 a0_2 a0_3 a0_4 a0_5))) else (coppiceref19_Right.j1 kj1 qg.2.1 qg.2.2.1 qg.2.2.2 (a0_2.toList != ([] : List UInt8)) a0_0 a0_1 a0_2 a0_3 a0_4 a0_5)) else (coppiceref19_Right.j1 kj1 qg.2.1 qg.2.2.1 qg.2.2.2 true a0_0 a0_1 a0_2 a0_3 a0_4 a0_5)) else ((coppiceref19_loose.f kj1 a0_1).bind fun qq => (if qq = true then (if qg.1 = true then ((coppiceref19_loose.f kj1 a0_2).bind fun qj => (if qj = true then (coppiceref19_Right.j1 kj1 qg.2.1 qg.2.2.1 qg.2.2.2 false a0_0 a0_1 a0_2 a0_3 a0_4 a0_5) else (coppiceref19_Right.j1 kj1 qg.2.1 qg.2.2.1 qg.2.2.2 true a0_0 a0_1 a0_2 a0_3 a0_4 a0_5))) else (coppiceref19_Right.j1 kj1 qg.2.1 qg.2.2.1 qg.2.2.2 (a0_2.toList != ([] : List UInt8)) a0_0 a0_1 a0_2 a0_3 a0_4 a0_5)) else (coppiceref19_Right.j1 kj1 qg.2.1 qg.2.2.1 qg.2.2.2 true a0_0 a0_1 a0_2 a0_3 a0_4 a0_5))))) = some r := by rw [if_neg (show ¬ (false = true) by decide)] at H; exact H
    clear H
    have H := H1
    clear H1
    replace H := Option.bind_eq_some_iff.mp H
    obtain ⟨⟨qn, qf, qd, qe⟩, A80, H⟩ := H
    replace H : (if a0_0 = 16 then (if a0_1.toList = ([] : List UInt8) then (if qn = true then ((coppiceref19_loose.f kj1 a0_2).bind fun qm => (if qm = true then (coppiceref19_Right.j1 kj1 qf qd qe false a0_0 a0_1 a0_2 a0_3 a0_4 a0_5) else (coppiceref19_Right.j1 kj1 qf qd qe true a0_0 a0_1 a0_2 a0_3 a0_4 a0_5))) else (coppiceref19_Right.j1 kj1 qf qd qe (a0_2.toList != ([] : List UInt8)) a0_0 a0_1 a0_2 a0_3 a0_4 a0_5)) else (coppiceref19_Right.j1 kj1 qf qd qe true a0_0 a0_1 a0_2 a0_3 a0_4 a0_5)) else ((coppiceref19_loose.f kj1 a0_1).bind fun qq => (if qq = true then (if qn = true then ((coppiceref19_loose.f kj1 a0_2).bind fun qj => (if qj = true then (coppiceref19_Right.j1 kj1 qf qd qe false a0_0 a0_1 a0_2 a0_3 a0_4 a0_5) else (coppiceref19_Right.j1 kj1 qf qd qe true a0_0 a0_1 a0_2 a0_3 a0_4 a0_5))) else (coppiceref19_Right.j1 kj1 qf qd qe (a0_2.toList != ([] : List UInt8)) a0_0 a0_1 a0_2 a0_3 a0_4 a0_5)) else (coppiceref19_Right.j1 kj1 qf qd qe true a0_0 a0_1 a0_2 a0_3 a0_4 a0_5)))) = some r := H
    have A8 := Aside0.mk A80
    clear A80
    have HC9 := Aside0.mk H
    clear H
    have hcz10_0 : wc.cell? ⟨qc, 0, none⟩ = some (.int .i64 a0_0) := (blk_cell qb.out 0).trans rfl
    have hcz10_1 : wc.cell? ⟨qc, 1, none⟩ = some (.string a0_1) := (blk_cell qb.out 1).trans rfl
    have hcz10_2 : wc.cell? ⟨qc, 2, none⟩ = some (.string a0_2) := (blk_cell qb.out 2).trans rfl
    have hcz10_3 : wc.cell? ⟨qc, 3, none⟩ = some (.string a0_3) := (blk_cell qb.out 3).trans rfl
    have hcz10_4 : wc.cell? ⟨qc, 4, none⟩ = some (.int .i64 a0_4) := (blk_cell qb.out 4).trans rfl
    have hcz10_5 : wc.cell? ⟨qc, 5, none⟩ = some (.string a0_5) := (blk_cell qb.out 5).trans rfl
    have hfz10_0 := blk_frozen qb.out 0
    have hfz10_1 := blk_frozen qb.out 1
    have hfz10_2 := blk_frozen qb.out 2
    have hfz10_3 := blk_frozen qb.out 3
    have hfz10_4 := blk_frozen qb.out 4
    have hfz10_5 := blk_frozen qb.out 5
    go_upto_region 4 with (first | ((with_reducible refine gate_callee (f := 24) rfl ?_); refine goesL_ (some 20) rfl rfl Tryz.func24 (by kernel_rfl) rfl #[.int .i64 a0_0] rfl (by (try simp only [List.map_toArray, List.map_cons, List.map_nil]); (rfl)) ?_; (with_reducible refine (coppiceref19_Has.calls a0_0 qn qf qd qe _ A8.out).mono ?_); rintro e w' ⟨rfl, ⟨nd, rfl⟩⟩; refine ⟨_, rfl, ?_⟩))
    (try simp only [Act.put, List.setIfInBounds_toArray, List.set_cons_zero, List.set_cons_succ])
    go_cut [61] (fun qv wc => ∃ (kq : Nat) (qr : Bool), qv = .bool qr ∧ Aside0 (coppiceref19_Right.j1 kq qf qd qe qr a0_0 a0_1 a0_2 a0_3 a0_4 a0_5 = some r) ∧ Aside0 (kq ≤ kj1) ∧ Aside0 (wc.heap[qc]? = some (.cells #[.int .i64 a0_0, .string a0_1, .string a0_2, .string a0_3, .int .i64 a0_4, .string a0_5] 23 (0, 0))) ∧ Aside0 (Below w.heap.size w wc))
    case first => as_aux_lemma =>
     have H := HC9.out
     clear HC9
     by_cases c11 : a0_0 = 16
     ·rw [if_pos c11] at H
      have c11b0 : (a0_0 == 16) = true := beq_iff_eq.mpr c11
      have c11b1 : (a0_0 != 16) = false := bne_eq_false_iff_eq.mpr c11
      clear c11
      ((skip))
      by_cases c12 : a0_1.toList = ([] : List UInt8)
      ·rw [if_pos c12] at H
       have c12b0 : (a0_1.toList == ([] : List UInt8)) = true := beq_iff_eq.mpr c12
       have c12b1 : (a0_1.toList != ([] : List UInt8)) = false := bne_eq_false_iff_eq.mpr c12
       clear c12
       by_cases c13 : qn = true
       ·subst c13
        have H1 : ((coppiceref19_loose.f kj1 a0_2).bind fun qm => (if qm = true then (coppiceref19_Right.j1 kj1 qf qd qe false a0_0 a0_1 a0_2 a0_3 a0_4 a0_5) else (coppiceref19_Right.j1 kj1 qf qd qe true a0_0 a0_1 a0_2 a0_3 a0_4 a0_5))) = some r := by rw [if_pos rfl] at H; exact H
        clear H
        have H := H1
        clear H1
        replace H := Option.bind_eq_some_iff.mp H
        obtain ⟨qm, A140, H⟩ := H
        replace H : (if qm = true then (coppiceref19_Right.j1 kj1 qf qd qe false a0_0 a0_1 a0_2 a0_3 a0_4 a0_5) else (coppiceref19_Right.j1 kj1 qf qd qe true a0_0 a0_1 a0_2 a0_3 a0_4 a0_5)) = some r := H
        have A14 := Aside0.mk A140
        clear A140
        by_cases c15 : qm = true
        ·subst c15
         have H1 : (coppiceref19_Right.j1 kj1 qf qd qe false a0_0 a0_1 a0_2 a0_3 a0_4 a0_5) = some r := by rw [if_pos rfl] at H; exact H
         clear H
         have H := H1
         clear H1
         have H' := Aside0.mk H
         clear H
         have hcz16_0 : wc.cell? ⟨qc, 0, none⟩ = some (.int .i64 a0_0) := (blk_cell qb.out 0).trans rfl
         have hcz16_1 : wc.cell? ⟨qc, 1, none⟩ = some (.string a0_1) := (blk_cell qb.out 1).trans rfl
         have hcz16_2 : wc.cell? ⟨qc, 2, none⟩ = some (.string a0_2) := (blk_cell qb.out 2).trans rfl
         have hcz16_3 : wc.cell? ⟨qc, 3, none⟩ = some (.string a0_3) := (blk_cell qb.out 3).trans rfl
         have hcz16_4 : wc.cell? ⟨qc, 4, none⟩ = some (.int .i64 a0_4) := (blk_cell qb.out 4).trans rfl
         have hcz16_5 : wc.cell? ⟨qc, 5, none⟩ = some (.string a0_5) := (blk_cell qb.out 5).trans rfl
         have hfz16_0 := blk_frozen qb.out 0
         have hfz16_1 := blk_frozen qb.out 1
         have hfz16_2 := blk_frozen qb.out 2
         have hfz16_3 := blk_frozen qb.out 3
         have hfz16_4 := blk_frozen qb.out 4
         have hfz16_5 := blk_frozen qb.out 5
         go_wp2_with (first | (go_at_call 42; (with_reducible refine (coppiceref19_loose.calls kj1 a0_2 true _ A14.out).mono ?_); rintro e w17 ⟨rfl, hb⟩; have n0_ := Aside0.mk (blk_below (g := qc) (o := .cells #[.int .i64 a0_0, .string a0_1, .string a0_2, .string a0_3, .int .i64 a0_4, .string a0_5] 23 (0, 0)) (by (with_reducible repeat ((refine blk_drewN ?_ _))); exact qb.out) hb); have n1_ := Aside0.mk (below_step (by repeat (((with_reducible first | exact HB.out | apply pw_below_drewN )))) hb); clear qb; clear HB; have qb := n0_; have HB := n1_; clear n0_ n1_; (try clear hb); (try clear hb2); (try clear hk); (try clear hi)))
         go_meet
         case rel => exact ⟨_, (false), (by (rfl)), H', ⟨by have := HJ1.out; (omega)⟩, ⟨by exact qb.out⟩, ⟨by repeat (((with_reducible (exact HB.out))))⟩⟩
        ·replace c15 := Bool.eq_false_iff.mpr c15
         subst c15
         have H1 : (coppiceref19_Right.j1 kj1 qf qd qe true a0_0 a0_1 a0_2 a0_3 a0_4 a0_5) = some r := by rw [if_neg (show ¬ (false = true) by decide)] at H; exact H
         clear H
         have H := H1
         clear H1
         have H' := Aside0.mk H
         clear H
         have hcz18_0 : wc.cell? ⟨qc, 0, none⟩ = some (.int .i64 a0_0) := (blk_cell qb.out 0).trans rfl
         have hcz18_1 : wc.cell? ⟨qc, 1, none⟩ = some (.string a0_1) := (blk_cell qb.out 1).trans rfl
         have hcz18_2 : wc.cell? ⟨qc, 2, none⟩ = some (.string a0_2) := (blk_cell qb.out 2).trans rfl
         have hcz18_3 : wc.cell? ⟨qc, 3, none⟩ = some (.string a0_3) := (blk_cell qb.out 3).trans rfl
         have hcz18_4 : wc.cell? ⟨qc, 4, none⟩ = some (.int .i64 a0_4) := (blk_cell qb.out 4).trans rfl
         have hcz18_5 : wc.cell? ⟨qc, 5, none⟩ = some (.string a0_5) := (blk_cell qb.out 5).trans rfl
         have hfz18_0 := blk_frozen qb.out 0
         have hfz18_1 := blk_frozen qb.out 1
         have hfz18_2 := blk_frozen qb.out 2
         have hfz18_3 := blk_frozen qb.out 3
         have hfz18_4 := blk_frozen qb.out 4
         have hfz18_5 := blk_frozen qb.out 5
         go_wp2_with (first | (go_at_call 42; (with_reducible refine (coppiceref19_loose.calls kj1 a0_2 false _ A14.out).mono ?_); rintro e w19 ⟨rfl, hb⟩; have n0_ := Aside0.mk (blk_below (g := qc) (o := .cells #[.int .i64 a0_0, .string a0_1, .string a0_2, .string a0_3, .int .i64 a0_4, .string a0_5] 23 (0, 0)) (by (with_reducible repeat ((refine blk_drewN ?_ _))); exact qb.out) hb); have n1_ := Aside0.mk (below_step (by repeat (((with_reducible first | exact HB.out | apply pw_below_drewN )))) hb); clear qb; clear HB; have qb := n0_; have HB := n1_; clear n0_ n1_; (try clear hb); (try clear hb2); (try clear hk); (try clear hi)))
         go_meet
         case rel => exact ⟨_, (true), (by (rfl)), H', ⟨by have := HJ1.out; (omega)⟩, ⟨by exact qb.out⟩, ⟨by repeat (((with_reducible (exact HB.out))))⟩⟩
       ·replace c13 := Bool.eq_false_iff.mpr c13
        subst c13
        have H1 : (coppiceref19_Right.j1 kj1 qf qd qe (a0_2.toList != ([] : List UInt8)) a0_0 a0_1 a0_2 a0_3 a0_4 a0_5) = some r := by rw [if_neg (show ¬ (false = true) by decide)] at H; exact H
        clear H
        have H := H1
        clear H1
        have H' := Aside0.mk H
        clear H
        have hcz20_0 : wc.cell? ⟨qc, 0, none⟩ = some (.int .i64 a0_0) := (blk_cell qb.out 0).trans rfl
        have hcz20_1 : wc.cell? ⟨qc, 1, none⟩ = some (.string a0_1) := (blk_cell qb.out 1).trans rfl
        have hcz20_2 : wc.cell? ⟨qc, 2, none⟩ = some (.string a0_2) := (blk_cell qb.out 2).trans rfl
        have hcz20_3 : wc.cell? ⟨qc, 3, none⟩ = some (.string a0_3) := (blk_cell qb.out 3).trans rfl
        have hcz20_4 : wc.cell? ⟨qc, 4, none⟩ = some (.int .i64 a0_4) := (blk_cell qb.out 4).trans rfl
        have hcz20_5 : wc.cell? ⟨qc, 5, none⟩ = some (.string a0_5) := (blk_cell qb.out 5).trans rfl
        have hfz20_0 := blk_frozen qb.out 0
        have hfz20_1 := blk_frozen qb.out 1
        have hfz20_2 := blk_frozen qb.out 2
        have hfz20_3 := blk_frozen qb.out 3
        have hfz20_4 := blk_frozen qb.out 4
        have hfz20_5 := blk_frozen qb.out 5
        go_wp2
        go_meet
        case rel => exact ⟨_, ((a0_2.toList != ([] : List UInt8))), (by ((simp; generalize ByteArray.toList _ = l_; cases l_ <;> rfl))), H', ⟨by have := HJ1.out; (omega)⟩, ⟨by (with_reducible repeat ((refine blk_drewN ?_ _))); exact qb.out⟩, ⟨by repeat (((with_reducible first | exact HB.out | apply pw_below_drewN )))⟩⟩
      ·rw [if_neg c12] at H
       have c12b0 : (a0_1.toList == ([] : List UInt8)) = false := beq_eq_false_iff_ne.mpr c12
       have c12b1 : (a0_1.toList != ([] : List UInt8)) = true := bne_iff_ne.mpr c12
       have H' := Aside0.mk H
       clear H
       have hcz21_0 : wc.cell? ⟨qc, 0, none⟩ = some (.int .i64 a0_0) := (blk_cell qb.out 0).trans rfl
       have hcz21_1 : wc.cell? ⟨qc, 1, none⟩ = some (.string a0_1) := (blk_cell qb.out 1).trans rfl
       have hcz21_2 : wc.cell? ⟨qc, 2, none⟩ = some (.string a0_2) := (blk_cell qb.out 2).trans rfl
       have hcz21_3 : wc.cell? ⟨qc, 3, none⟩ = some (.string a0_3) := (blk_cell qb.out 3).trans rfl
       have hcz21_4 : wc.cell? ⟨qc, 4, none⟩ = some (.int .i64 a0_4) := (blk_cell qb.out 4).trans rfl
       have hcz21_5 : wc.cell? ⟨qc, 5, none⟩ = some (.string a0_5) := (blk_cell qb.out 5).trans rfl
       have hfz21_0 := blk_frozen qb.out 0
       have hfz21_1 := blk_frozen qb.out 1
       have hfz21_2 := blk_frozen qb.out 2
       have hfz21_3 := blk_frozen qb.out 3
       have hfz21_4 := blk_frozen qb.out 4
       have hfz21_5 := blk_frozen qb.out 5
       go_wp2
       go_meet
       case rel => exact ⟨_, (true), (by (rfl)), H', ⟨by have := HJ1.out; (omega)⟩, ⟨by (with_reducible repeat ((refine blk_drewN ?_ _))); exact qb.out⟩, ⟨by repeat (((with_reducible first | exact HB.out | apply pw_below_drewN )))⟩⟩
     ·rw [if_neg c11] at H
      have c11b0 : (a0_0 == 16) = false := beq_eq_false_iff_ne.mpr c11
      have c11b1 : (a0_0 != 16) = true := bne_iff_ne.mpr c11
      ((skip))
      replace H := Option.bind_eq_some_iff.mp H
      obtain ⟨qq, A220, H⟩ := H
      replace H : (if qq = true then (if qn = true then ((coppiceref19_loose.f kj1 a0_2).bind fun qj => (if qj = true then (coppiceref19_Right.j1 kj1 qf qd qe false a0_0 a0_1 a0_2 a0_3 a0_4 a0_5) else (coppiceref19_Right.j1 kj1 qf qd qe true a0_0 a0_1 a0_2 a0_3 a0_4 a0_5))) else (coppiceref19_Right.j1 kj1 qf qd qe (a0_2.toList != ([] : List UInt8)) a0_0 a0_1 a0_2 a0_3 a0_4 a0_5)) else (coppiceref19_Right.j1 kj1 qf qd qe true a0_0 a0_1 a0_2 a0_3 a0_4 a0_5)) = some r := H
      have A22 := Aside0.mk A220
      clear A220
      by_cases c23 : qq = true
      ·subst c23
       have H1 : (if qn = true then ((coppiceref19_loose.f kj1 a0_2).bind fun qj => (if qj = true then (coppiceref19_Right.j1 kj1 qf qd qe false a0_0 a0_1 a0_2 a0_3 a0_4 a0_5) else (coppiceref19_Right.j1 kj1 qf qd qe true a0_0 a0_1 a0_2 a0_3 a0_4 a0_5))) else (coppiceref19_Right.j1 kj1 qf qd qe (a0_2.toList != ([] : List UInt8)) a0_0 a0_1 a0_2 a0_3 a0_4 a0_5)) = some r := by rw [if_pos rfl] at H; exact H
       clear H
       have H := H1
       clear H1
       by_cases c24 : qn = true
       ·subst c24
        have H1 : ((coppiceref19_loose.f kj1 a0_2).bind fun qj => (if qj = true then (coppiceref19_Right.j1 kj1 qf qd qe false a0_0 a0_1 a0_2 a0_3 a0_4 a0_5) else (coppiceref19_Right.j1 kj1 qf qd qe true a0_0 a0_1 a0_2 a0_3 a0_4 a0_5))) = some r := by rw [if_pos rfl] at H; exact H
        clear H
        have H := H1
        clear H1
        replace H := Option.bind_eq_some_iff.mp H
        obtain ⟨qj, A250, H⟩ := H
        replace H : (if qj = true then (coppiceref19_Right.j1 kj1 qf qd qe false a0_0 a0_1 a0_2 a0_3 a0_4 a0_5) else (coppiceref19_Right.j1 kj1 qf qd qe true a0_0 a0_1 a0_2 a0_3 a0_4 a0_5)) = some r := H
        have A25 := Aside0.mk A250
        clear A250
        by_cases c26 : qj = true
        ·subst c26
         have H1 : (coppiceref19_Right.j1 kj1 qf qd qe false a0_0 a0_1 a0_2 a0_3 a0_4 a0_5) = some r := by rw [if_pos rfl] at H; exact H
         clear H
         have H := H1
         clear H1
         have H' := Aside0.mk H
         clear H
         have hcz27_0 : wc.cell? ⟨qc, 0, none⟩ = some (.int .i64 a0_0) := (blk_cell qb.out 0).trans rfl
         have hcz27_1 : wc.cell? ⟨qc, 1, none⟩ = some (.string a0_1) := (blk_cell qb.out 1).trans rfl
         have hcz27_2 : wc.cell? ⟨qc, 2, none⟩ = some (.string a0_2) := (blk_cell qb.out 2).trans rfl
         have hcz27_3 : wc.cell? ⟨qc, 3, none⟩ = some (.string a0_3) := (blk_cell qb.out 3).trans rfl
         have hcz27_4 : wc.cell? ⟨qc, 4, none⟩ = some (.int .i64 a0_4) := (blk_cell qb.out 4).trans rfl
         have hcz27_5 : wc.cell? ⟨qc, 5, none⟩ = some (.string a0_5) := (blk_cell qb.out 5).trans rfl
         have hfz27_0 := blk_frozen qb.out 0
         have hfz27_1 := blk_frozen qb.out 1
         have hfz27_2 := blk_frozen qb.out 2
         have hfz27_3 := blk_frozen qb.out 3
         have hfz27_4 := blk_frozen qb.out 4
         have hfz27_5 := blk_frozen qb.out 5
         go_wp2_with (first | (go_at_call 42; (with_reducible refine (coppiceref19_loose.calls kj1 a0_1 true _ A22.out).mono ?_); rintro e w28 ⟨rfl, hb⟩; have n0_ := Aside0.mk (blk_below (g := qc) (o := .cells #[.int .i64 a0_0, .string a0_1, .string a0_2, .string a0_3, .int .i64 a0_4, .string a0_5] 23 (0, 0)) (by (with_reducible repeat ((refine blk_drewN ?_ _))); exact qb.out) hb); have n1_ := Aside0.mk (below_step (by repeat (((with_reducible first | exact HB.out | apply pw_below_drewN )))) hb); clear qb; clear HB; have qb := n0_; have HB := n1_; clear n0_ n1_; (try clear hb); (try clear hb2); (try clear hk); (try clear hi); have hcz29_0 : w28.cell? ⟨qc, 0, none⟩ = some (.int .i64 a0_0) := (blk_cell qb.out 0).trans rfl; have hcz29_1 : w28.cell? ⟨qc, 1, none⟩ = some (.string a0_1) := (blk_cell qb.out 1).trans rfl; have hcz29_2 : w28.cell? ⟨qc, 2, none⟩ = some (.string a0_2) := (blk_cell qb.out 2).trans rfl; have hcz29_3 : w28.cell? ⟨qc, 3, none⟩ = some (.string a0_3) := (blk_cell qb.out 3).trans rfl; have hcz29_4 : w28.cell? ⟨qc, 4, none⟩ = some (.int .i64 a0_4) := (blk_cell qb.out 4).trans rfl; have hcz29_5 : w28.cell? ⟨qc, 5, none⟩ = some (.string a0_5) := (blk_cell qb.out 5).trans rfl; have hfz29_0 := blk_frozen qb.out 0; have hfz29_1 := blk_frozen qb.out 1; have hfz29_2 := blk_frozen qb.out 2; have hfz29_3 := blk_frozen qb.out 3; have hfz29_4 := blk_frozen qb.out 4; have hfz29_5 := blk_frozen qb.out 5) | (go_at_call 42; (with_reducible refine (coppiceref19_loose.calls kj1 a0_2 true _ A25.out).mono ?_); rintro e w30 ⟨rfl, hb⟩; have n0_ := Aside0.mk (blk_below (g := qc) (o := .cells #[.int .i64 a0_0, .string a0_1, .string a0_2, .string a0_3, .int .i64 a0_4, .string a0_5] 23 (0, 0)) (by exact qb.out) hb); have n1_ := Aside0.mk (below_step (by repeat (((with_reducible (exact HB.out))))) hb); clear qb; clear HB; have qb := n0_; have HB := n1_; clear n0_ n1_; (try clear hb); (try clear hb2); (try clear hk); (try clear hi)))
         go_meet
         case rel => exact ⟨_, (false), (by (rfl)), H', ⟨by have := HJ1.out; (omega)⟩, ⟨by exact qb.out⟩, ⟨by repeat (((with_reducible (exact HB.out))))⟩⟩
        ·replace c26 := Bool.eq_false_iff.mpr c26
         subst c26
         have H1 : (coppiceref19_Right.j1 kj1 qf qd qe true a0_0 a0_1 a0_2 a0_3 a0_4 a0_5) = some r := by rw [if_neg (show ¬ (false = true) by decide)] at H; exact H
         clear H
         have H := H1
         clear H1
         have H' := Aside0.mk H
         clear H
         have hcz31_0 : wc.cell? ⟨qc, 0, none⟩ = some (.int .i64 a0_0) := (blk_cell qb.out 0).trans rfl
         have hcz31_1 : wc.cell? ⟨qc, 1, none⟩ = some (.string a0_1) := (blk_cell qb.out 1).trans rfl
         have hcz31_2 : wc.cell? ⟨qc, 2, none⟩ = some (.string a0_2) := (blk_cell qb.out 2).trans rfl
         have hcz31_3 : wc.cell? ⟨qc, 3, none⟩ = some (.string a0_3) := (blk_cell qb.out 3).trans rfl
         have hcz31_4 : wc.cell? ⟨qc, 4, none⟩ = some (.int .i64 a0_4) := (blk_cell qb.out 4).trans rfl
         have hcz31_5 : wc.cell? ⟨qc, 5, none⟩ = some (.string a0_5) := (blk_cell qb.out 5).trans rfl
         have hfz31_0 := blk_frozen qb.out 0
         have hfz31_1 := blk_frozen qb.out 1
         have hfz31_2 := blk_frozen qb.out 2
         have hfz31_3 := blk_frozen qb.out 3
         have hfz31_4 := blk_frozen qb.out 4
         have hfz31_5 := blk_frozen qb.out 5
         go_wp2_with (first | (go_at_call 42; (with_reducible refine (coppiceref19_loose.calls kj1 a0_1 true _ A22.out).mono ?_); rintro e w32 ⟨rfl, hb⟩; have n0_ := Aside0.mk (blk_below (g := qc) (o := .cells #[.int .i64 a0_0, .string a0_1, .string a0_2, .string a0_3, .int .i64 a0_4, .string a0_5] 23 (0, 0)) (by (with_reducible repeat ((refine blk_drewN ?_ _))); exact qb.out) hb); have n1_ := Aside0.mk (below_step (by repeat (((with_reducible first | exact HB.out | apply pw_below_drewN )))) hb); clear qb; clear HB; have qb := n0_; have HB := n1_; clear n0_ n1_; (try clear hb); (try clear hb2); (try clear hk); (try clear hi); have hcz33_0 : w32.cell? ⟨qc, 0, none⟩ = some (.int .i64 a0_0) := (blk_cell qb.out 0).trans rfl; have hcz33_1 : w32.cell? ⟨qc, 1, none⟩ = some (.string a0_1) := (blk_cell qb.out 1).trans rfl; have hcz33_2 : w32.cell? ⟨qc, 2, none⟩ = some (.string a0_2) := (blk_cell qb.out 2).trans rfl; have hcz33_3 : w32.cell? ⟨qc, 3, none⟩ = some (.string a0_3) := (blk_cell qb.out 3).trans rfl; have hcz33_4 : w32.cell? ⟨qc, 4, none⟩ = some (.int .i64 a0_4) := (blk_cell qb.out 4).trans rfl; have hcz33_5 : w32.cell? ⟨qc, 5, none⟩ = some (.string a0_5) := (blk_cell qb.out 5).trans rfl; have hfz33_0 := blk_frozen qb.out 0; have hfz33_1 := blk_frozen qb.out 1; have hfz33_2 := blk_frozen qb.out 2; have hfz33_3 := blk_frozen qb.out 3; have hfz33_4 := blk_frozen qb.out 4; have hfz33_5 := blk_frozen qb.out 5) | (go_at_call 42; (with_reducible refine (coppiceref19_loose.calls kj1 a0_2 false _ A25.out).mono ?_); rintro e w34 ⟨rfl, hb⟩; have n0_ := Aside0.mk (blk_below (g := qc) (o := .cells #[.int .i64 a0_0, .string a0_1, .string a0_2, .string a0_3, .int .i64 a0_4, .string a0_5] 23 (0, 0)) (by exact qb.out) hb); have n1_ := Aside0.mk (below_step (by repeat (((with_reducible (exact HB.out))))) hb); clear qb; clear HB; have qb := n0_; have HB := n1_; clear n0_ n1_; (try clear hb); (try clear hb2); (try clear hk); (try clear hi)))
         go_meet
         case rel => exact ⟨_, (true), (by (rfl)), H', ⟨by have := HJ1.out; (omega)⟩, ⟨by exact qb.out⟩, ⟨by repeat (((with_reducible (exact HB.out))))⟩⟩
       ·replace c24 := Bool.eq_false_iff.mpr c24
        subst c24
        have H1 : (coppiceref19_Right.j1 kj1 qf qd qe (a0_2.toList != ([] : List UInt8)) a0_0 a0_1 a0_2 a0_3 a0_4 a0_5) = some r := by rw [if_neg (show ¬ (false = true) by decide)] at H; exact H
        clear H
        have H := H1
        clear H1
        have H' := Aside0.mk H
        clear H
        have hcz35_0 : wc.cell? ⟨qc, 0, none⟩ = some (.int .i64 a0_0) := (blk_cell qb.out 0).trans rfl
        have hcz35_1 : wc.cell? ⟨qc, 1, none⟩ = some (.string a0_1) := (blk_cell qb.out 1).trans rfl
        have hcz35_2 : wc.cell? ⟨qc, 2, none⟩ = some (.string a0_2) := (blk_cell qb.out 2).trans rfl
        have hcz35_3 : wc.cell? ⟨qc, 3, none⟩ = some (.string a0_3) := (blk_cell qb.out 3).trans rfl
        have hcz35_4 : wc.cell? ⟨qc, 4, none⟩ = some (.int .i64 a0_4) := (blk_cell qb.out 4).trans rfl
        have hcz35_5 : wc.cell? ⟨qc, 5, none⟩ = some (.string a0_5) := (blk_cell qb.out 5).trans rfl
        have hfz35_0 := blk_frozen qb.out 0
        have hfz35_1 := blk_frozen qb.out 1
        have hfz35_2 := blk_frozen qb.out 2
        have hfz35_3 := blk_frozen qb.out 3
        have hfz35_4 := blk_frozen qb.out 4
        have hfz35_5 := blk_frozen qb.out 5
        go_wp2_with (first | (go_at_call 42; (with_reducible refine (coppiceref19_loose.calls kj1 a0_1 true _ A22.out).mono ?_); rintro e w36 ⟨rfl, hb⟩; have n0_ := Aside0.mk (blk_below (g := qc) (o := .cells #[.int .i64 a0_0, .string a0_1, .string a0_2, .string a0_3, .int .i64 a0_4, .string a0_5] 23 (0, 0)) (by (with_reducible repeat ((refine blk_drewN ?_ _))); exact qb.out) hb); have n1_ := Aside0.mk (below_step (by repeat (((with_reducible first | exact HB.out | apply pw_below_drewN )))) hb); clear qb; clear HB; have qb := n0_; have HB := n1_; clear n0_ n1_; (try clear hb); (try clear hb2); (try clear hk); (try clear hi); have hcz37_0 : w36.cell? ⟨qc, 0, none⟩ = some (.int .i64 a0_0) := (blk_cell qb.out 0).trans rfl; have hcz37_1 : w36.cell? ⟨qc, 1, none⟩ = some (.string a0_1) := (blk_cell qb.out 1).trans rfl; have hcz37_2 : w36.cell? ⟨qc, 2, none⟩ = some (.string a0_2) := (blk_cell qb.out 2).trans rfl; have hcz37_3 : w36.cell? ⟨qc, 3, none⟩ = some (.string a0_3) := (blk_cell qb.out 3).trans rfl; have hcz37_4 : w36.cell? ⟨qc, 4, none⟩ = some (.int .i64 a0_4) := (blk_cell qb.out 4).trans rfl; have hcz37_5 : w36.cell? ⟨qc, 5, none⟩ = some (.string a0_5) := (blk_cell qb.out 5).trans rfl; have hfz37_0 := blk_frozen qb.out 0; have hfz37_1 := blk_frozen qb.out 1; have hfz37_2 := blk_frozen qb.out 2; have hfz37_3 := blk_frozen qb.out 3; have hfz37_4 := blk_frozen qb.out 4; have hfz37_5 := blk_frozen qb.out 5))
        go_meet
        case rel => exact ⟨_, ((a0_2.toList != ([] : List UInt8))), (by ((simp; generalize ByteArray.toList _ = l_; cases l_ <;> rfl))), H', ⟨by have := HJ1.out; (omega)⟩, ⟨by exact qb.out⟩, ⟨by repeat (((with_reducible (exact HB.out))))⟩⟩
      ·replace c23 := Bool.eq_false_iff.mpr c23
       subst c23
       have H1 : (coppiceref19_Right.j1 kj1 qf qd qe true a0_0 a0_1 a0_2 a0_3 a0_4 a0_5) = some r := by rw [if_neg (show ¬ (false = true) by decide)] at H; exact H
       clear H
       have H := H1
       clear H1
       have H' := Aside0.mk H
       clear H
       have hcz38_0 : wc.cell? ⟨qc, 0, none⟩ = some (.int .i64 a0_0) := (blk_cell qb.out 0).trans rfl
       have hcz38_1 : wc.cell? ⟨qc, 1, none⟩ = some (.string a0_1) := (blk_cell qb.out 1).trans rfl
       have hcz38_2 : wc.cell? ⟨qc, 2, none⟩ = some (.string a0_2) := (blk_cell qb.out 2).trans rfl
       have hcz38_3 : wc.cell? ⟨qc, 3, none⟩ = some (.string a0_3) := (blk_cell qb.out 3).trans rfl
       have hcz38_4 : wc.cell? ⟨qc, 4, none⟩ = some (.int .i64 a0_4) := (blk_cell qb.out 4).trans rfl
       have hcz38_5 : wc.cell? ⟨qc, 5, none⟩ = some (.string a0_5) := (blk_cell qb.out 5).trans rfl
       have hfz38_0 := blk_frozen qb.out 0
       have hfz38_1 := blk_frozen qb.out 1
       have hfz38_2 := blk_frozen qb.out 2
       have hfz38_3 := blk_frozen qb.out 3
       have hfz38_4 := blk_frozen qb.out 4
       have hfz38_5 := blk_frozen qb.out 5
       go_wp2_with (first | (go_at_call 42; (with_reducible refine (coppiceref19_loose.calls kj1 a0_1 false _ A22.out).mono ?_); rintro e w39 ⟨rfl, hb⟩; have n0_ := Aside0.mk (blk_below (g := qc) (o := .cells #[.int .i64 a0_0, .string a0_1, .string a0_2, .string a0_3, .int .i64 a0_4, .string a0_5] 23 (0, 0)) (by (with_reducible repeat ((refine blk_drewN ?_ _))); exact qb.out) hb); have n1_ := Aside0.mk (below_step (by repeat (((with_reducible first | exact HB.out | apply pw_below_drewN )))) hb); clear qb; clear HB; have qb := n0_; have HB := n1_; clear n0_ n1_; (try clear hb); (try clear hb2); (try clear hk); (try clear hi)))
       go_meet
       case rel => exact ⟨_, (true), (by (rfl)), H', ⟨by have := HJ1.out; (omega)⟩, ⟨by exact qb.out⟩, ⟨by repeat (((with_reducible (exact HB.out))))⟩⟩
    case rest => as_aux_lemma =>
     clear HC9
     try clear c1
     try clear c2
     try clear p2
     try clear c4
     try clear c4b0
     try clear c7
     try clear c11
     try clear c11b0
     try clear c11b1
     try clear c12
     try clear c12b0
     try clear c12b1
     try clear c13
     try clear c15
     try clear c23
     try clear c24
     try clear c26
     try clear hcz10_0
     try clear hcz10_1
     try clear hcz10_2
     try clear hcz10_3
     try clear hcz10_4
     try clear hcz10_5
     try clear hcz16_0
     try clear hcz16_1
     try clear hcz16_2
     try clear hcz16_3
     try clear hcz16_4
     try clear hcz16_5
     try clear hcz18_0
     try clear hcz18_1
     try clear hcz18_2
     try clear hcz18_3
     try clear hcz18_4
     try clear hcz18_5
     try clear hcz20_0
     try clear hcz20_1
     try clear hcz20_2
     try clear hcz20_3
     try clear hcz20_4
     try clear hcz20_5
     try clear hcz21_0
     try clear hcz21_1
     try clear hcz21_2
     try clear hcz21_3
     try clear hcz21_4
     try clear hcz21_5
     try clear hcz27_0
     try clear hcz27_1
     try clear hcz27_2
     try clear hcz27_3
     try clear hcz27_4
     try clear hcz27_5
     try clear hcz29_0
     try clear hcz29_1
     try clear hcz29_2
     try clear hcz29_3
     try clear hcz29_4
     try clear hcz29_5
     try clear hcz31_0
     try clear hcz31_1
     try clear hcz31_2
     try clear hcz31_3
     try clear hcz31_4
     try clear hcz31_5
     try clear hcz33_0
     try clear hcz33_1
     try clear hcz33_2
     try clear hcz33_3
     try clear hcz33_4
     try clear hcz33_5
     try clear hcz35_0
     try clear hcz35_1
     try clear hcz35_2
     try clear hcz35_3
     try clear hcz35_4
     try clear hcz35_5
     try clear hcz37_0
     try clear hcz37_1
     try clear hcz37_2
     try clear hcz37_3
     try clear hcz37_4
     try clear hcz37_5
     try clear hcz38_0
     try clear hcz38_1
     try clear hcz38_2
     try clear hcz38_3
     try clear hcz38_4
     try clear hcz38_5
     try clear hcz5_0
     try clear hcz5_1
     try clear hcz5_2
     try clear hcz5_3
     try clear hcz5_4
     try clear hcz5_5
     try clear hcz6_0
     try clear hcz6_1
     try clear hcz6_2
     try clear hcz6_3
     try clear hcz6_4
     try clear hcz6_5
     try clear hfz10_0
     try clear hfz10_1
     try clear hfz10_2
     try clear hfz10_3
     try clear hfz10_4
     try clear hfz10_5
     try clear hfz16_0
     try clear hfz16_1
     try clear hfz16_2
     try clear hfz16_3
     try clear hfz16_4
     try clear hfz16_5
     try clear hfz18_0
     try clear hfz18_1
     try clear hfz18_2
     try clear hfz18_3
     try clear hfz18_4
     try clear hfz18_5
     try clear hfz20_0
     try clear hfz20_1
     try clear hfz20_2
     try clear hfz20_3
     try clear hfz20_4
     try clear hfz20_5
     try clear hfz21_0
     try clear hfz21_1
     try clear hfz21_2
     try clear hfz21_3
     try clear hfz21_4
     try clear hfz21_5
     try clear hfz27_0
     try clear hfz27_1
     try clear hfz27_2
     try clear hfz27_3
     try clear hfz27_4
     try clear hfz27_5
     try clear hfz29_0
     try clear hfz29_1
     try clear hfz29_2
     try clear hfz29_3
     try clear hfz29_4
     try clear hfz29_5
     try clear hfz31_0
     try clear hfz31_1
     try clear hfz31_2
     try clear hfz31_3
     try clear hfz31_4
     try clear hfz31_5
     try clear hfz33_0
     try clear hfz33_1
     try clear hfz33_2
     try clear hfz33_3
     try clear hfz33_4
     try clear hfz33_5
     try clear hfz35_0
     try clear hfz35_1
     try clear hfz35_2
     try clear hfz35_3
     try clear hfz35_4
     try clear hfz35_5
     try clear hfz37_0
     try clear hfz37_1
     try clear hfz37_2
     try clear hfz37_3
     try clear hfz37_4
     try clear hfz37_5
     try clear hfz38_0
     try clear hfz38_1
     try clear hfz38_2
     try clear hfz38_3
     try clear hfz38_4
     try clear hfz38_5
     try clear hfz5_0
     try clear hfz5_1
     try clear hfz5_2
     try clear hfz5_3
     try clear hfz5_4
     try clear hfz5_5
     try clear hfz6_0
     try clear hfz6_1
     try clear hfz6_2
     try clear hfz6_3
     try clear hfz6_4
     try clear hfz6_5
     try clear p2
     obtain ⟨kq, qr, rfl, HA, HJ8, qb, HB⟩ := hcut
     cases kq with
     | zero => exact absurd HA.out (by simp [coppiceref19_Right.j1])
     | succ kj8 =>
      have H := HA.out
      clear HA
      simp only [coppiceref19_Right.j1] at H
      by_cases c40 : qr = true
      ·subst c40
       have H1 : (some false) = some r := by rw [if_pos rfl] at H; exact H
       clear H
       have H := H1
       clear H1
       obtain rfl := Option.some.inj H
       go_wp2
       go_ret
       exact ⟨by (rfl), by repeat (((with_reducible (exact HB.out))))⟩
      ·replace c40 := Bool.eq_false_iff.mpr c40
       subst c40
       have H1 : (if qf = true then ((coppiceref12_Name.f kj8 a0_3).bind fun qp => (if qp = true then (if qd = true then (if qe = true then (coppiceref19_Right.j2 kj8 qd false a0_0 a0_1 a0_2 a0_3 a0_4 a0_5) else (coppiceref19_Right.j2 kj8 qd (a0_5.toList != ([] : List UInt8)) a0_0 a0_1 a0_2 a0_3 a0_4 a0_5)) else (if a0_4 = 0 then (if qe = true then (coppiceref19_Right.j2 kj8 qd false a0_0 a0_1 a0_2 a0_3 a0_4 a0_5) else (coppiceref19_Right.j2 kj8 qd (a0_5.toList != ([] : List UInt8)) a0_0 a0_1 a0_2 a0_3 a0_4 a0_5)) else (coppiceref19_Right.j2 kj8 qd true a0_0 a0_1 a0_2 a0_3 a0_4 a0_5))) else (coppiceref19_Right.j2 kj8 qd true a0_0 a0_1 a0_2 a0_3 a0_4 a0_5))) else (if a0_3.toList = ([] : List UInt8) then (if qd = true then (if qe = true then (coppiceref19_Right.j2 kj8 qd false a0_0 a0_1 a0_2 a0_3 a0_4 a0_5) else (coppiceref19_Right.j2 kj8 qd (a0_5.toList != ([] : List UInt8)) a0_0 a0_1 a0_2 a0_3 a0_4 a0_5)) else (if a0_4 = 0 then (if qe = true then (coppiceref19_Right.j2 kj8 qd false a0_0 a0_1 a0_2 a0_3 a0_4 a0_5) else (coppiceref19_Right.j2 kj8 qd (a0_5.toList != ([] : List UInt8)) a0_0 a0_1 a0_2 a0_3 a0_4 a0_5)) else (coppiceref19_Right.j2 kj8 qd true a0_0 a0_1 a0_2 a0_3 a0_4 a0_5))) else (coppiceref19_Right.j2 kj8 qd true a0_0 a0_1 a0_2 a0_3 a0_4 a0_5))) = some r := by rw [if_neg (show ¬ (false = true) by decide)] at H; exact H
       clear H
       have H := H1
       clear H1
       have qt := Aside0.mk H
       clear H
       go_upto_region 6 with (fail)
       go_cut [95] (fun qx wc => ∃ (kq : Nat) (qo : Bool), qx = .bool qo ∧ Aside0 (coppiceref19_Right.j2 kq qd qo a0_0 a0_1 a0_2 a0_3 a0_4 a0_5 = some r) ∧ Aside0 (kq ≤ kj8) ∧ Aside0 (wc.heap[qc]? = some (.cells #[.int .i64 a0_0, .string a0_1, .string a0_2, .string a0_3, .int .i64 a0_4, .string a0_5] 23 (0, 0))) ∧ Aside0 (Below w.heap.size w wc))
       case first => as_aux_lemma =>
        have H := qt.out
        clear qt
        by_cases c42 : qf = true
        ·subst c42
         have H1 : ((coppiceref12_Name.f kj8 a0_3).bind fun qp => (if qp = true then (if qd = true then (if qe = true then (coppiceref19_Right.j2 kj8 qd false a0_0 a0_1 a0_2 a0_3 a0_4 a0_5) else (coppiceref19_Right.j2 kj8 qd (a0_5.toList != ([] : List UInt8)) a0_0 a0_1 a0_2 a0_3 a0_4 a0_5)) else (if a0_4 = 0 then (if qe = true then (coppiceref19_Right.j2 kj8 qd false a0_0 a0_1 a0_2 a0_3 a0_4 a0_5) else (coppiceref19_Right.j2 kj8 qd (a0_5.toList != ([] : List UInt8)) a0_0 a0_1 a0_2 a0_3 a0_4 a0_5)) else (coppiceref19_Right.j2 kj8 qd true a0_0 a0_1 a0_2 a0_3 a0_4 a0_5))) else (coppiceref19_Right.j2 kj8 qd true a0_0 a0_1 a0_2 a0_3 a0_4 a0_5))) = some r := by rw [if_pos rfl] at H; exact H
         clear H
         have H := H1
         clear H1
         replace H := Option.bind_eq_some_iff.mp H
         obtain ⟨qp, A430, H⟩ := H
         replace H : (if qp = true then (if qd = true then (if qe = true then (coppiceref19_Right.j2 kj8 qd false a0_0 a0_1 a0_2 a0_3 a0_4 a0_5) else (coppiceref19_Right.j2 kj8 qd (a0_5.toList != ([] : List UInt8)) a0_0 a0_1 a0_2 a0_3 a0_4 a0_5)) else (if a0_4 = 0 then (if qe = true then (coppiceref19_Right.j2 kj8 qd false a0_0 a0_1 a0_2 a0_3 a0_4 a0_5) else (coppiceref19_Right.j2 kj8 qd (a0_5.toList != ([] : List UInt8)) a0_0 a0_1 a0_2 a0_3 a0_4 a0_5)) else (coppiceref19_Right.j2 kj8 qd true a0_0 a0_1 a0_2 a0_3 a0_4 a0_5))) else (coppiceref19_Right.j2 kj8 qd true a0_0 a0_1 a0_2 a0_3 a0_4 a0_5)) = some r := H
         have A43 := Aside0.mk A430
         clear A430
         by_cases c44 : qp = true
         ·subst c44
          have H1 : (if qd = true then (if qe = true then (coppiceref19_Right.j2 kj8 qd false a0_0 a0_1 a0_2 a0_3 a0_4 a0_5) else (coppiceref19_Right.j2 kj8 qd (a0_5.toList != ([] : List UInt8)) a0_0 a0_1 a0_2 a0_3 a0_4 a0_5)) else (if a0_4 = 0 then (if qe = true then (coppiceref19_Right.j2 kj8 qd false a0_0 a0_1 a0_2 a0_3 a0_4 a0_5) else (coppiceref19_Right.j2 kj8 qd (a0_5.toList != ([] : List UInt8)) a0_0 a0_1 a0_2 a0_3 a0_4 a0_5)) else (coppiceref19_Right.j2 kj8 qd true a0_0 a0_1 a0_2 a0_3 a0_4 a0_5))) = some r := by rw [if_pos rfl] at H; exact H
          clear H
          have H := H1
          clear H1
          by_cases c45 : qd = true
          ·subst c45
           have H1 : (if qe = true then (coppiceref19_Right.j2 kj8 true false a0_0 a0_1 a0_2 a0_3 a0_4 a0_5) else (coppiceref19_Right.j2 kj8 true (a0_5.toList != ([] : List UInt8)) a0_0 a0_1 a0_2 a0_3 a0_4 a0_5)) = some r := by rw [if_pos rfl] at H; exact H
           clear H
           have H := H1
           clear H1
           by_cases c46 : qe = true
           ·subst c46
            have H1 : (coppiceref19_Right.j2 kj8 true false a0_0 a0_1 a0_2 a0_3 a0_4 a0_5) = some r := by rw [if_pos rfl] at H; exact H
            clear H
            have H := H1
            clear H1
            have H' := Aside0.mk H
            clear H
            have hcz47_0 : wc.cell? ⟨qc, 0, none⟩ = some (.int .i64 a0_0) := (blk_cell qb.out 0).trans rfl
            have hcz47_1 : wc.cell? ⟨qc, 1, none⟩ = some (.string a0_1) := (blk_cell qb.out 1).trans rfl
            have hcz47_2 : wc.cell? ⟨qc, 2, none⟩ = some (.string a0_2) := (blk_cell qb.out 2).trans rfl
            have hcz47_3 : wc.cell? ⟨qc, 3, none⟩ = some (.string a0_3) := (blk_cell qb.out 3).trans rfl
            have hcz47_4 : wc.cell? ⟨qc, 4, none⟩ = some (.int .i64 a0_4) := (blk_cell qb.out 4).trans rfl
            have hcz47_5 : wc.cell? ⟨qc, 5, none⟩ = some (.string a0_5) := (blk_cell qb.out 5).trans rfl
            have hfz47_0 := blk_frozen qb.out 0
            have hfz47_1 := blk_frozen qb.out 1
            have hfz47_2 := blk_frozen qb.out 2
            have hfz47_3 := blk_frozen qb.out 3
            have hfz47_4 := blk_frozen qb.out 4
            have hfz47_5 := blk_frozen qb.out 5
            go_wp2_with (first | (go_at_call 43; (with_reducible refine (coppiceref12_Name.calls kj8 a0_3 true _ A43.out).mono ?_); rintro e w' ⟨rfl, ⟨nd, rfl⟩⟩))
            go_meet
            case rel => exact ⟨_, (false), (by (rfl)), H', ⟨by have := HJ1.out; have := HJ8.out; (omega)⟩, ⟨by (with_reducible repeat ((refine blk_drewN ?_ _))); exact qb.out⟩, ⟨by repeat (((with_reducible first | exact HB.out | apply pw_below_drewN )))⟩⟩
           ·replace c46 := Bool.eq_false_iff.mpr c46
            subst c46
            have H1 : (coppiceref19_Right.j2 kj8 true (a0_5.toList != ([] : List UInt8)) a0_0 a0_1 a0_2 a0_3 a0_4 a0_5) = some r := by rw [if_neg (show ¬ (false = true) by decide)] at H; exact H
            clear H
            have H := H1
            clear H1
            have H' := Aside0.mk H
            clear H
            have hcz48_0 : wc.cell? ⟨qc, 0, none⟩ = some (.int .i64 a0_0) := (blk_cell qb.out 0).trans rfl
            have hcz48_1 : wc.cell? ⟨qc, 1, none⟩ = some (.string a0_1) := (blk_cell qb.out 1).trans rfl
            have hcz48_2 : wc.cell? ⟨qc, 2, none⟩ = some (.string a0_2) := (blk_cell qb.out 2).trans rfl
            have hcz48_3 : wc.cell? ⟨qc, 3, none⟩ = some (.string a0_3) := (blk_cell qb.out 3).trans rfl
            have hcz48_4 : wc.cell? ⟨qc, 4, none⟩ = some (.int .i64 a0_4) := (blk_cell qb.out 4).trans rfl
            have hcz48_5 : wc.cell? ⟨qc, 5, none⟩ = some (.string a0_5) := (blk_cell qb.out 5).trans rfl
            have hfz48_0 := blk_frozen qb.out 0
            have hfz48_1 := blk_frozen qb.out 1
            have hfz48_2 := blk_frozen qb.out 2
            have hfz48_3 := blk_frozen qb.out 3
            have hfz48_4 := blk_frozen qb.out 4
            have hfz48_5 := blk_frozen qb.out 5
            go_wp2_with (first | (go_at_call 43; (with_reducible refine (coppiceref12_Name.calls kj8 a0_3 true _ A43.out).mono ?_); rintro e w' ⟨rfl, ⟨nd, rfl⟩⟩))
            go_meet
            case rel => exact ⟨_, ((a0_5.toList != ([] : List UInt8))), (by ((simp; generalize ByteArray.toList _ = l_; cases l_ <;> rfl))), H', ⟨by have := HJ1.out; have := HJ8.out; (omega)⟩, ⟨by (with_reducible repeat ((refine blk_drewN ?_ _))); exact qb.out⟩, ⟨by repeat (((with_reducible first | exact HB.out | apply pw_below_drewN )))⟩⟩
          ·replace c45 := Bool.eq_false_iff.mpr c45
           subst c45
           have H1 : (if a0_4 = 0 then (if qe = true then (coppiceref19_Right.j2 kj8 false false a0_0 a0_1 a0_2 a0_3 a0_4 a0_5) else (coppiceref19_Right.j2 kj8 false (a0_5.toList != ([] : List UInt8)) a0_0 a0_1 a0_2 a0_3 a0_4 a0_5)) else (coppiceref19_Right.j2 kj8 false true a0_0 a0_1 a0_2 a0_3 a0_4 a0_5)) = some r := by rw [if_neg (show ¬ (false = true) by decide)] at H; exact H
           clear H
           have H := H1
           clear H1
           by_cases c49 : a0_4 = 0
           ·rw [if_pos c49] at H
            have c49b0 : (a0_4 == 0) = true := beq_iff_eq.mpr c49
            have c49b1 : (a0_4 != 0) = false := bne_eq_false_iff_eq.mpr c49
            clear c49
            ((skip))
            by_cases c50 : qe = true
            ·subst c50
             have H1 : (coppiceref19_Right.j2 kj8 false false a0_0 a0_1 a0_2 a0_3 a0_4 a0_5) = some r := by rw [if_pos rfl] at H; exact H
             clear H
             have H := H1
             clear H1
             have H' := Aside0.mk H
             clear H
             have hcz51_0 : wc.cell? ⟨qc, 0, none⟩ = some (.int .i64 a0_0) := (blk_cell qb.out 0).trans rfl
             have hcz51_1 : wc.cell? ⟨qc, 1, none⟩ = some (.string a0_1) := (blk_cell qb.out 1).trans rfl
             have hcz51_2 : wc.cell? ⟨qc, 2, none⟩ = some (.string a0_2) := (blk_cell qb.out 2).trans rfl
             have hcz51_3 : wc.cell? ⟨qc, 3, none⟩ = some (.string a0_3) := (blk_cell qb.out 3).trans rfl
             have hcz51_4 : wc.cell? ⟨qc, 4, none⟩ = some (.int .i64 a0_4) := (blk_cell qb.out 4).trans rfl
             have hcz51_5 : wc.cell? ⟨qc, 5, none⟩ = some (.string a0_5) := (blk_cell qb.out 5).trans rfl
             have hfz51_0 := blk_frozen qb.out 0
             have hfz51_1 := blk_frozen qb.out 1
             have hfz51_2 := blk_frozen qb.out 2
             have hfz51_3 := blk_frozen qb.out 3
             have hfz51_4 := blk_frozen qb.out 4
             have hfz51_5 := blk_frozen qb.out 5
             go_wp2_with (first | (go_at_call 43; (with_reducible refine (coppiceref12_Name.calls kj8 a0_3 true _ A43.out).mono ?_); rintro e w' ⟨rfl, ⟨nd, rfl⟩⟩))
             go_meet
             case rel => exact ⟨_, (false), (by (rfl)), H', ⟨by have := HJ1.out; have := HJ8.out; (omega)⟩, ⟨by (with_reducible repeat ((refine blk_drewN ?_ _))); exact qb.out⟩, ⟨by repeat (((with_reducible first | exact HB.out | apply pw_below_drewN )))⟩⟩
            ·replace c50 := Bool.eq_false_iff.mpr c50
             subst c50
             have H1 : (coppiceref19_Right.j2 kj8 false (a0_5.toList != ([] : List UInt8)) a0_0 a0_1 a0_2 a0_3 a0_4 a0_5) = some r := by rw [if_neg (show ¬ (false = true) by decide)] at H; exact H
             clear H
             have H := H1
             clear H1
             have H' := Aside0.mk H
             clear H
             have hcz52_0 : wc.cell? ⟨qc, 0, none⟩ = some (.int .i64 a0_0) := (blk_cell qb.out 0).trans rfl
             have hcz52_1 : wc.cell? ⟨qc, 1, none⟩ = some (.string a0_1) := (blk_cell qb.out 1).trans rfl
             have hcz52_2 : wc.cell? ⟨qc, 2, none⟩ = some (.string a0_2) := (blk_cell qb.out 2).trans rfl
             have hcz52_3 : wc.cell? ⟨qc, 3, none⟩ = some (.string a0_3) := (blk_cell qb.out 3).trans rfl
             have hcz52_4 : wc.cell? ⟨qc, 4, none⟩ = some (.int .i64 a0_4) := (blk_cell qb.out 4).trans rfl
             have hcz52_5 : wc.cell? ⟨qc, 5, none⟩ = some (.string a0_5) := (blk_cell qb.out 5).trans rfl
             have hfz52_0 := blk_frozen qb.out 0
             have hfz52_1 := blk_frozen qb.out 1
             have hfz52_2 := blk_frozen qb.out 2
             have hfz52_3 := blk_frozen qb.out 3
             have hfz52_4 := blk_frozen qb.out 4
             have hfz52_5 := blk_frozen qb.out 5
             go_wp2_with (first | (go_at_call 43; (with_reducible refine (coppiceref12_Name.calls kj8 a0_3 true _ A43.out).mono ?_); rintro e w' ⟨rfl, ⟨nd, rfl⟩⟩))
             go_meet
             case rel => exact ⟨_, ((a0_5.toList != ([] : List UInt8))), (by ((simp; generalize ByteArray.toList _ = l_; cases l_ <;> rfl))), H', ⟨by have := HJ1.out; have := HJ8.out; (omega)⟩, ⟨by (with_reducible repeat ((refine blk_drewN ?_ _))); exact qb.out⟩, ⟨by repeat (((with_reducible first | exact HB.out | apply pw_below_drewN )))⟩⟩
           ·rw [if_neg c49] at H
            have c49b0 : (a0_4 == 0) = false := beq_eq_false_iff_ne.mpr c49
            have c49b1 : (a0_4 != 0) = true := bne_iff_ne.mpr c49
            ((skip))
            have H' := Aside0.mk H
            clear H
            have hcz53_0 : wc.cell? ⟨qc, 0, none⟩ = some (.int .i64 a0_0) := (blk_cell qb.out 0).trans rfl
            have hcz53_1 : wc.cell? ⟨qc, 1, none⟩ = some (.string a0_1) := (blk_cell qb.out 1).trans rfl
            have hcz53_2 : wc.cell? ⟨qc, 2, none⟩ = some (.string a0_2) := (blk_cell qb.out 2).trans rfl
            have hcz53_3 : wc.cell? ⟨qc, 3, none⟩ = some (.string a0_3) := (blk_cell qb.out 3).trans rfl
            have hcz53_4 : wc.cell? ⟨qc, 4, none⟩ = some (.int .i64 a0_4) := (blk_cell qb.out 4).trans rfl
            have hcz53_5 : wc.cell? ⟨qc, 5, none⟩ = some (.string a0_5) := (blk_cell qb.out 5).trans rfl
            have hfz53_0 := blk_frozen qb.out 0
            have hfz53_1 := blk_frozen qb.out 1
            have hfz53_2 := blk_frozen qb.out 2
            have hfz53_3 := blk_frozen qb.out 3
            have hfz53_4 := blk_frozen qb.out 4
            have hfz53_5 := blk_frozen qb.out 5
            go_wp2_with (first | (go_at_call 43; (with_reducible refine (coppiceref12_Name.calls kj8 a0_3 true _ A43.out).mono ?_); rintro e w' ⟨rfl, ⟨nd, rfl⟩⟩))
            go_meet
            case rel => exact ⟨_, (true), (by (rfl)), H', ⟨by have := HJ1.out; have := HJ8.out; (omega)⟩, ⟨by (with_reducible repeat ((refine blk_drewN ?_ _))); exact qb.out⟩, ⟨by repeat (((with_reducible first | exact HB.out | apply pw_below_drewN )))⟩⟩
         ·replace c44 := Bool.eq_false_iff.mpr c44
          subst c44
          have H1 : (coppiceref19_Right.j2 kj8 qd true a0_0 a0_1 a0_2 a0_3 a0_4 a0_5) = some r := by rw [if_neg (show ¬ (false = true) by decide)] at H; exact H
          clear H
          have H := H1
          clear H1
          have H' := Aside0.mk H
          clear H
          have hcz54_0 : wc.cell? ⟨qc, 0, none⟩ = some (.int .i64 a0_0) := (blk_cell qb.out 0).trans rfl
          have hcz54_1 : wc.cell? ⟨qc, 1, none⟩ = some (.string a0_1) := (blk_cell qb.out 1).trans rfl
          have hcz54_2 : wc.cell? ⟨qc, 2, none⟩ = some (.string a0_2) := (blk_cell qb.out 2).trans rfl
          have hcz54_3 : wc.cell? ⟨qc, 3, none⟩ = some (.string a0_3) := (blk_cell qb.out 3).trans rfl
          have hcz54_4 : wc.cell? ⟨qc, 4, none⟩ = some (.int .i64 a0_4) := (blk_cell qb.out 4).trans rfl
          have hcz54_5 : wc.cell? ⟨qc, 5, none⟩ = some (.string a0_5) := (blk_cell qb.out 5).trans rfl
          have hfz54_0 := blk_frozen qb.out 0
          have hfz54_1 := blk_frozen qb.out 1
          have hfz54_2 := blk_frozen qb.out 2
          have hfz54_3 := blk_frozen qb.out 3
          have hfz54_4 := blk_frozen qb.out 4
          have hfz54_5 := blk_frozen qb.out 5
          go_wp2_with (first | (go_at_call 43; (with_reducible refine (coppiceref12_Name.calls kj8 a0_3 false _ A43.out).mono ?_); rintro e w' ⟨rfl, ⟨nd, rfl⟩⟩))
          go_meet
          case rel => exact ⟨_, (true), (by (rfl)), H', ⟨by have := HJ1.out; have := HJ8.out; (omega)⟩, ⟨by (with_reducible repeat ((refine blk_drewN ?_ _))); exact qb.out⟩, ⟨by repeat (((with_reducible first | exact HB.out | apply pw_below_drewN )))⟩⟩
        ·replace c42 := Bool.eq_false_iff.mpr c42
         subst c42
         have H1 : (if a0_3.toList = ([] : List UInt8) then (if qd = true then (if qe = true then (coppiceref19_Right.j2 kj8 qd false a0_0 a0_1 a0_2 a0_3 a0_4 a0_5) else (coppiceref19_Right.j2 kj8 qd (a0_5.toList != ([] : List UInt8)) a0_0 a0_1 a0_2 a0_3 a0_4 a0_5)) else (if a0_4 = 0 then (if qe = true then (coppiceref19_Right.j2 kj8 qd false a0_0 a0_1 a0_2 a0_3 a0_4 a0_5) else (coppiceref19_Right.j2 kj8 qd (a0_5.toList != ([] : List UInt8)) a0_0 a0_1 a0_2 a0_3 a0_4 a0_5)) else (coppiceref19_Right.j2 kj8 qd true a0_0 a0_1 a0_2 a0_3 a0_4 a0_5))) else (coppiceref19_Right.j2 kj8 qd true a0_0 a0_1 a0_2 a0_3 a0_4 a0_5)) = some r := by rw [if_neg (show ¬ (false = true) by decide)] at H; exact H
         clear H
         have H := H1
         clear H1
         by_cases c55 : a0_3.toList = ([] : List UInt8)
         ·rw [if_pos c55] at H
          have c55b0 : (a0_3.toList == ([] : List UInt8)) = true := beq_iff_eq.mpr c55
          have c55b1 : (a0_3.toList != ([] : List UInt8)) = false := bne_eq_false_iff_eq.mpr c55
          clear c55
          by_cases c56 : qd = true
          ·subst c56
           have H1 : (if qe = true then (coppiceref19_Right.j2 kj8 true false a0_0 a0_1 a0_2 a0_3 a0_4 a0_5) else (coppiceref19_Right.j2 kj8 true (a0_5.toList != ([] : List UInt8)) a0_0 a0_1 a0_2 a0_3 a0_4 a0_5)) = some r := by rw [if_pos rfl] at H; exact H
           clear H
           have H := H1
           clear H1
           by_cases c57 : qe = true
           ·subst c57
            have H1 : (coppiceref19_Right.j2 kj8 true false a0_0 a0_1 a0_2 a0_3 a0_4 a0_5) = some r := by rw [if_pos rfl] at H; exact H
            clear H
            have H := H1
            clear H1
            have H' := Aside0.mk H
            clear H
            have hcz58_0 : wc.cell? ⟨qc, 0, none⟩ = some (.int .i64 a0_0) := (blk_cell qb.out 0).trans rfl
            have hcz58_1 : wc.cell? ⟨qc, 1, none⟩ = some (.string a0_1) := (blk_cell qb.out 1).trans rfl
            have hcz58_2 : wc.cell? ⟨qc, 2, none⟩ = some (.string a0_2) := (blk_cell qb.out 2).trans rfl
            have hcz58_3 : wc.cell? ⟨qc, 3, none⟩ = some (.string a0_3) := (blk_cell qb.out 3).trans rfl
            have hcz58_4 : wc.cell? ⟨qc, 4, none⟩ = some (.int .i64 a0_4) := (blk_cell qb.out 4).trans rfl
            have hcz58_5 : wc.cell? ⟨qc, 5, none⟩ = some (.string a0_5) := (blk_cell qb.out 5).trans rfl
            have hfz58_0 := blk_frozen qb.out 0
            have hfz58_1 := blk_frozen qb.out 1
            have hfz58_2 := blk_frozen qb.out 2
            have hfz58_3 := blk_frozen qb.out 3
            have hfz58_4 := blk_frozen qb.out 4
            have hfz58_5 := blk_frozen qb.out 5
            go_wp2
            go_meet
            case rel => exact ⟨_, (false), (by (rfl)), H', ⟨by have := HJ1.out; have := HJ8.out; (omega)⟩, ⟨by exact qb.out⟩, ⟨by repeat (((with_reducible (exact HB.out))))⟩⟩
           ·replace c57 := Bool.eq_false_iff.mpr c57
            subst c57
            have H1 : (coppiceref19_Right.j2 kj8 true (a0_5.toList != ([] : List UInt8)) a0_0 a0_1 a0_2 a0_3 a0_4 a0_5) = some r := by rw [if_neg (show ¬ (false = true) by decide)] at H; exact H
            clear H
            have H := H1
            clear H1
            have H' := Aside0.mk H
            clear H
            have hcz59_0 : wc.cell? ⟨qc, 0, none⟩ = some (.int .i64 a0_0) := (blk_cell qb.out 0).trans rfl
            have hcz59_1 : wc.cell? ⟨qc, 1, none⟩ = some (.string a0_1) := (blk_cell qb.out 1).trans rfl
            have hcz59_2 : wc.cell? ⟨qc, 2, none⟩ = some (.string a0_2) := (blk_cell qb.out 2).trans rfl
            have hcz59_3 : wc.cell? ⟨qc, 3, none⟩ = some (.string a0_3) := (blk_cell qb.out 3).trans rfl
            have hcz59_4 : wc.cell? ⟨qc, 4, none⟩ = some (.int .i64 a0_4) := (blk_cell qb.out 4).trans rfl
            have hcz59_5 : wc.cell? ⟨qc, 5, none⟩ = some (.string a0_5) := (blk_cell qb.out 5).trans rfl
            have hfz59_0 := blk_frozen qb.out 0
            have hfz59_1 := blk_frozen qb.out 1
            have hfz59_2 := blk_frozen qb.out 2
            have hfz59_3 := blk_frozen qb.out 3
            have hfz59_4 := blk_frozen qb.out 4
            have hfz59_5 := blk_frozen qb.out 5
            go_wp2
            go_meet
            case rel => exact ⟨_, ((a0_5.toList != ([] : List UInt8))), (by ((simp; generalize ByteArray.toList _ = l_; cases l_ <;> rfl))), H', ⟨by have := HJ1.out; have := HJ8.out; (omega)⟩, ⟨by exact qb.out⟩, ⟨by repeat (((with_reducible (exact HB.out))))⟩⟩
          ·replace c56 := Bool.eq_false_iff.mpr c56
           subst c56
           have H1 : (if a0_4 = 0 then (if qe = true then (coppiceref19_Right.j2 kj8 false false a0_0 a0_1 a0_2 a0_3 a0_4 a0_5) else (coppiceref19_Right.j2 kj8 false (a0_5.toList != ([] : List UInt8)) a0_0 a0_1 a0_2 a0_3 a0_4 a0_5)) else (coppiceref19_Right.j2 kj8 false true a0_0 a0_1 a0_2 a0_3 a0_4 a0_5)) = some r := by rw [if_neg (show ¬ (false = true) by decide)] at H; exact H
           clear H
           have H := H1
           clear H1
           by_cases c60 : a0_4 = 0
           ·rw [if_pos c60] at H
            have c60b0 : (a0_4 == 0) = true := beq_iff_eq.mpr c60
            have c60b1 : (a0_4 != 0) = false := bne_eq_false_iff_eq.mpr c60
            clear c60
            by_cases c61 : qe = true
            ·subst c61
             have H1 : (coppiceref19_Right.j2 kj8 false false a0_0 a0_1 a0_2 a0_3 a0_4 a0_5) = some r := by rw [if_pos rfl] at H; exact H
             clear H
             have H := H1
             clear H1
             have H' := Aside0.mk H
             clear H
             have hcz62_0 : wc.cell? ⟨qc, 0, none⟩ = some (.int .i64 a0_0) := (blk_cell qb.out 0).trans rfl
             have hcz62_1 : wc.cell? ⟨qc, 1, none⟩ = some (.string a0_1) := (blk_cell qb.out 1).trans rfl
             have hcz62_2 : wc.cell? ⟨qc, 2, none⟩ = some (.string a0_2) := (blk_cell qb.out 2).trans rfl
             have hcz62_3 : wc.cell? ⟨qc, 3, none⟩ = some (.string a0_3) := (blk_cell qb.out 3).trans rfl
             have hcz62_4 : wc.cell? ⟨qc, 4, none⟩ = some (.int .i64 a0_4) := (blk_cell qb.out 4).trans rfl
             have hcz62_5 : wc.cell? ⟨qc, 5, none⟩ = some (.string a0_5) := (blk_cell qb.out 5).trans rfl
             have hfz62_0 := blk_frozen qb.out 0
             have hfz62_1 := blk_frozen qb.out 1
             have hfz62_2 := blk_frozen qb.out 2
             have hfz62_3 := blk_frozen qb.out 3
             have hfz62_4 := blk_frozen qb.out 4
             have hfz62_5 := blk_frozen qb.out 5
             go_wp2
             go_meet
             case rel => exact ⟨_, (false), (by (rfl)), H', ⟨by have := HJ1.out; have := HJ8.out; (omega)⟩, ⟨by exact qb.out⟩, ⟨by repeat (((with_reducible (exact HB.out))))⟩⟩
            ·replace c61 := Bool.eq_false_iff.mpr c61
             subst c61
             have H1 : (coppiceref19_Right.j2 kj8 false (a0_5.toList != ([] : List UInt8)) a0_0 a0_1 a0_2 a0_3 a0_4 a0_5) = some r := by rw [if_neg (show ¬ (false = true) by decide)] at H; exact H
             clear H
             have H := H1
             clear H1
             have H' := Aside0.mk H
             clear H
             have hcz63_0 : wc.cell? ⟨qc, 0, none⟩ = some (.int .i64 a0_0) := (blk_cell qb.out 0).trans rfl
             have hcz63_1 : wc.cell? ⟨qc, 1, none⟩ = some (.string a0_1) := (blk_cell qb.out 1).trans rfl
             have hcz63_2 : wc.cell? ⟨qc, 2, none⟩ = some (.string a0_2) := (blk_cell qb.out 2).trans rfl
             have hcz63_3 : wc.cell? ⟨qc, 3, none⟩ = some (.string a0_3) := (blk_cell qb.out 3).trans rfl
             have hcz63_4 : wc.cell? ⟨qc, 4, none⟩ = some (.int .i64 a0_4) := (blk_cell qb.out 4).trans rfl
             have hcz63_5 : wc.cell? ⟨qc, 5, none⟩ = some (.string a0_5) := (blk_cell qb.out 5).trans rfl
             have hfz63_0 := blk_frozen qb.out 0
             have hfz63_1 := blk_frozen qb.out 1
             have hfz63_2 := blk_frozen qb.out 2
             have hfz63_3 := blk_frozen qb.out 3
             have hfz63_4 := blk_frozen qb.out 4
             have hfz63_5 := blk_frozen qb.out 5
             go_wp2
             go_meet
             case rel => exact ⟨_, ((a0_5.toList != ([] : List UInt8))), (by ((simp; generalize ByteArray.toList _ = l_; cases l_ <;> rfl))), H', ⟨by have := HJ1.out; have := HJ8.out; (omega)⟩, ⟨by exact qb.out⟩, ⟨by repeat (((with_reducible (exact HB.out))))⟩⟩
           ·rw [if_neg c60] at H
            have c60b0 : (a0_4 == 0) = false := beq_eq_false_iff_ne.mpr c60
            have c60b1 : (a0_4 != 0) = true := bne_iff_ne.mpr c60
            have H' := Aside0.mk H
            clear H
            have hcz64_0 : wc.cell? ⟨qc, 0, none⟩ = some (.int .i64 a0_0) := (blk_cell qb.out 0).trans rfl
            have hcz64_1 : wc.cell? ⟨qc, 1, none⟩ = some (.string a0_1) := (blk_cell qb.out 1).trans rfl
            have hcz64_2 : wc.cell? ⟨qc, 2, none⟩ = some (.string a0_2) := (blk_cell qb.out 2).trans rfl
            have hcz64_3 : wc.cell? ⟨qc, 3, none⟩ = some (.string a0_3) := (blk_cell qb.out 3).trans rfl
            have hcz64_4 : wc.cell? ⟨qc, 4, none⟩ = some (.int .i64 a0_4) := (blk_cell qb.out 4).trans rfl
            have hcz64_5 : wc.cell? ⟨qc, 5, none⟩ = some (.string a0_5) := (blk_cell qb.out 5).trans rfl
            have hfz64_0 := blk_frozen qb.out 0
            have hfz64_1 := blk_frozen qb.out 1
            have hfz64_2 := blk_frozen qb.out 2
            have hfz64_3 := blk_frozen qb.out 3
            have hfz64_4 := blk_frozen qb.out 4
            have hfz64_5 := blk_frozen qb.out 5
            go_wp2
            go_meet
            case rel => exact ⟨_, (true), (by (rfl)), H', ⟨by have := HJ1.out; have := HJ8.out; (omega)⟩, ⟨by exact qb.out⟩, ⟨by repeat (((with_reducible (exact HB.out))))⟩⟩
         ·rw [if_neg c55] at H
          have c55b0 : (a0_3.toList == ([] : List UInt8)) = false := beq_eq_false_iff_ne.mpr c55
          have c55b1 : (a0_3.toList != ([] : List UInt8)) = true := bne_iff_ne.mpr c55
          have H' := Aside0.mk H
          clear H
          have hcz65_0 : wc.cell? ⟨qc, 0, none⟩ = some (.int .i64 a0_0) := (blk_cell qb.out 0).trans rfl
          have hcz65_1 : wc.cell? ⟨qc, 1, none⟩ = some (.string a0_1) := (blk_cell qb.out 1).trans rfl
          have hcz65_2 : wc.cell? ⟨qc, 2, none⟩ = some (.string a0_2) := (blk_cell qb.out 2).trans rfl
          have hcz65_3 : wc.cell? ⟨qc, 3, none⟩ = some (.string a0_3) := (blk_cell qb.out 3).trans rfl
          have hcz65_4 : wc.cell? ⟨qc, 4, none⟩ = some (.int .i64 a0_4) := (blk_cell qb.out 4).trans rfl
          have hcz65_5 : wc.cell? ⟨qc, 5, none⟩ = some (.string a0_5) := (blk_cell qb.out 5).trans rfl
          have hfz65_0 := blk_frozen qb.out 0
          have hfz65_1 := blk_frozen qb.out 1
          have hfz65_2 := blk_frozen qb.out 2
          have hfz65_3 := blk_frozen qb.out 3
          have hfz65_4 := blk_frozen qb.out 4
          have hfz65_5 := blk_frozen qb.out 5
          go_wp2
          go_meet
          case rel => exact ⟨_, (true), (by (rfl)), H', ⟨by have := HJ1.out; have := HJ8.out; (omega)⟩, ⟨by exact qb.out⟩, ⟨by repeat (((with_reducible (exact HB.out))))⟩⟩
       case rest => as_aux_lemma =>
        clear qt
        try clear c1
        try clear c2
        try clear p2
        try clear c4
        try clear c4b0
        try clear c5
        try clear c6
        try clear c7
        try clear c11
        try clear c11b0
        try clear c11b1
        try clear c12
        try clear c12b0
        try clear c12b1
        try clear c13
        try clear c15
        try clear c23
        try clear c24
        try clear c26
        try clear c40
        try clear c42
        try clear c44
        try clear c45
        try clear c46
        try clear c49
        try clear c49b0
        try clear c49b1
        try clear c50
        try clear c55
        try clear c55b0
        try clear c55b1
        try clear c56
        try clear c57
        try clear c60
        try clear c60b0
        try clear c60b1
        try clear c61
        try clear hcz10_0
        try clear hcz10_1
        try clear hcz10_2
        try clear hcz10_3
        try clear hcz10_4
        try clear hcz10_5
        try clear hcz16_0
        try clear hcz16_1
        try clear hcz16_2
        try clear hcz16_3
        try clear hcz16_4
        try clear hcz16_5
        try clear hcz18_0
        try clear hcz18_1
        try clear hcz18_2
        try clear hcz18_3
        try clear hcz18_4
        try clear hcz18_5
        try clear hcz20_0
        try clear hcz20_1
        try clear hcz20_2
        try clear hcz20_3
        try clear hcz20_4
        try clear hcz20_5
        try clear hcz21_0
        try clear hcz21_1
        try clear hcz21_2
        try clear hcz21_3
        try clear hcz21_4
        try clear hcz21_5
        try clear hcz27_0
        try clear hcz27_1
        try clear hcz27_2
        try clear hcz27_3
        try clear hcz27_4
        try clear hcz27_5
        try clear hcz29_0
        try clear hcz29_1
        try clear hcz29_2
        try clear hcz29_3
        try clear hcz29_4
        try clear hcz29_5
        try clear hcz31_0
        try clear hcz31_1
        try clear hcz31_2
        try clear hcz31_3
        try clear hcz31_4
        try clear hcz31_5
        try clear hcz33_0
        try clear hcz33_1
        try clear hcz33_2
        try clear hcz33_3
        try clear hcz33_4
        try clear hcz33_5
        try clear hcz35_0
        try clear hcz35_1
        try clear hcz35_2
        try clear hcz35_3
        try clear hcz35_4
        try clear hcz35_5
        try clear hcz37_0
        try clear hcz37_1
        try clear hcz37_2
        try clear hcz37_3
        try clear hcz37_4
        try clear hcz37_5
        try clear hcz38_0
        try clear hcz38_1
        try clear hcz38_2
        try clear hcz38_3
        try clear hcz38_4
        try clear hcz38_5
        try clear hcz47_0
        try clear hcz47_1
        try clear hcz47_2
        try clear hcz47_3
        try clear hcz47_4
        try clear hcz47_5
        try clear hcz48_0
        try clear hcz48_1
        try clear hcz48_2
        try clear hcz48_3
        try clear hcz48_4
        try clear hcz48_5
        try clear hcz51_0
        try clear hcz51_1
        try clear hcz51_2
        try clear hcz51_3
        try clear hcz51_4
        try clear hcz51_5
        try clear hcz52_0
        try clear hcz52_1
        try clear hcz52_2
        try clear hcz52_3
        try clear hcz52_4
        try clear hcz52_5
        try clear hcz53_0
        try clear hcz53_1
        try clear hcz53_2
        try clear hcz53_3
        try clear hcz53_4
        try clear hcz53_5
        try clear hcz54_0
        try clear hcz54_1
        try clear hcz54_2
        try clear hcz54_3
        try clear hcz54_4
        try clear hcz54_5
        try clear hcz58_0
        try clear hcz58_1
        try clear hcz58_2
        try clear hcz58_3
        try clear hcz58_4
        try clear hcz58_5
        try clear hcz59_0
        try clear hcz59_1
        try clear hcz59_2
        try clear hcz59_3
        try clear hcz59_4
        try clear hcz59_5
        try clear hcz5_0
        try clear hcz5_1
        try clear hcz5_2
        try clear hcz5_3
        try clear hcz5_4
        try clear hcz5_5
        try clear hcz62_0
        try clear hcz62_1
        try clear hcz62_2
        try clear hcz62_3
        try clear hcz62_4
        try clear hcz62_5
        try clear hcz63_0
        try clear hcz63_1
        try clear hcz63_2
        try clear hcz63_3
        try clear hcz63_4
        try clear hcz63_5
        try clear hcz64_0
        try clear hcz64_1
        try clear hcz64_2
        try clear hcz64_3
        try clear hcz64_4
        try clear hcz64_5
        try clear hcz65_0
        try clear hcz65_1
        try clear hcz65_2
        try clear hcz65_3
        try clear hcz65_4
        try clear hcz65_5
        try clear hcz6_0
        try clear hcz6_1
        try clear hcz6_2
        try clear hcz6_3
        try clear hcz6_4
        try clear hcz6_5
        try clear hfz10_0
        try clear hfz10_1
        try clear hfz10_2
        try clear hfz10_3
        try clear hfz10_4
        try clear hfz10_5
        try clear hfz16_0
        try clear hfz16_1
        try clear hfz16_2
        try clear hfz16_3
        try clear hfz16_4
        try clear hfz16_5
        try clear hfz18_0
        try clear hfz18_1
        try clear hfz18_2
        try clear hfz18_3
        try clear hfz18_4
        try clear hfz18_5
        try clear hfz20_0
        try clear hfz20_1
        try clear hfz20_2
        try clear hfz20_3
        try clear hfz20_4
        try clear hfz20_5
        try clear hfz21_0
        try clear hfz21_1
        try clear hfz21_2
        try clear hfz21_3
        try clear hfz21_4
        try clear hfz21_5
        try clear hfz27_0
        try clear hfz27_1
        try clear hfz27_2
        try clear hfz27_3
        try clear hfz27_4
        try clear hfz27_5
        try clear hfz29_0
        try clear hfz29_1
        try clear hfz29_2
        try clear hfz29_3
        try clear hfz29_4
        try clear hfz29_5
        try clear hfz31_0
        try clear hfz31_1
        try clear hfz31_2
        try clear hfz31_3
        try clear hfz31_4
        try clear hfz31_5
        try clear hfz33_0
        try clear hfz33_1
        try clear hfz33_2
        try clear hfz33_3
        try clear hfz33_4
        try clear hfz33_5
        try clear hfz35_0
        try clear hfz35_1
        try clear hfz35_2
        try clear hfz35_3
        try clear hfz35_4
        try clear hfz35_5
        try clear hfz37_0
        try clear hfz37_1
        try clear hfz37_2
        try clear hfz37_3
        try clear hfz37_4
        try clear hfz37_5
        try clear hfz38_0
        try clear hfz38_1
        try clear hfz38_2
        try clear hfz38_3
        try clear hfz38_4
        try clear hfz38_5
        try clear hfz47_0
        try clear hfz47_1
        try clear hfz47_2
        try clear hfz47_3
        try clear hfz47_4
        try clear hfz47_5
        try clear hfz48_0
        try clear hfz48_1
        try clear hfz48_2
        try clear hfz48_3
        try clear hfz48_4
        try clear hfz48_5
        try clear hfz51_0
        try clear hfz51_1
        try clear hfz51_2
        try clear hfz51_3
        try clear hfz51_4
        try clear hfz51_5
        try clear hfz52_0
        try clear hfz52_1
        try clear hfz52_2
        try clear hfz52_3
        try clear hfz52_4
        try clear hfz52_5
        try clear hfz53_0
        try clear hfz53_1
        try clear hfz53_2
        try clear hfz53_3
        try clear hfz53_4
        try clear hfz53_5
        try clear hfz54_0
        try clear hfz54_1
        try clear hfz54_2
        try clear hfz54_3
        try clear hfz54_4
        try clear hfz54_5
        try clear hfz58_0
        try clear hfz58_1
        try clear hfz58_2
        try clear hfz58_3
        try clear hfz58_4
        try clear hfz58_5
        try clear hfz59_0
        try clear hfz59_1
        try clear hfz59_2
        try clear hfz59_3
        try clear hfz59_4
        try clear hfz59_5
        try clear hfz5_0
        try clear hfz5_1
        try clear hfz5_2
        try clear hfz5_3
        try clear hfz5_4
        try clear hfz5_5
        try clear hfz62_0
        try clear hfz62_1
        try clear hfz62_2
        try clear hfz62_3
        try clear hfz62_4
        try clear hfz62_5
        try clear hfz63_0
        try clear hfz63_1
        try clear hfz63_2
        try clear hfz63_3
        try clear hfz63_4
        try clear hfz63_5
        try clear hfz64_0
        try clear hfz64_1
        try clear hfz64_2
        try clear hfz64_3
        try clear hfz64_4
        try clear hfz64_5
        try clear hfz65_0
        try clear hfz65_1
        try clear hfz65_2
        try clear hfz65_3
        try clear hfz65_4
        try clear hfz65_5
        try clear hfz6_0
        try clear hfz6_1
        try clear hfz6_2
        try clear hfz6_3
        try clear hfz6_4
        try clear hfz6_5
        try clear p2
        obtain ⟨kq, qo, rfl, HA, HJ40, qb, HB⟩ := hcut
        cases kq with
        | zero => exact absurd HA.out (by simp [coppiceref19_Right.j2])
        | succ kj40 =>
         have H := HA.out
         clear HA
         simp only [coppiceref19_Right.j2] at H
         by_cases c66 : qo = true
         ·subst c66
          have H1 : (some false) = some r := by rw [if_pos rfl] at H; exact H
          clear H
          have H := H1
          clear H1
          obtain rfl := Option.some.inj H
          go_wp2
          go_ret
          exact ⟨by (rfl), by repeat (((with_reducible (exact HB.out))))⟩
         ·replace c66 := Bool.eq_false_iff.mpr c66
          subst c66
          have H1 : ((coppiceref19_bounds.f kj40 a0_0).bind fun qu => (if qd = true then (if a0_4 < qu.1 then (some false) else (if a0_4 > qu.2 then (some false) else (if a0_0 = 3 then ((coppiceref12_Target.f kj40 a0_5).bind fun ql => (if ql = true then (if a0_0 = 9 then (if (a0_5.size : Int) = 64 then (if a0_0 = 12 then (some (!(decide ((a0_5.size : Int) > 120)))) else (some (!false))) else (some (!true))) else (if a0_0 = 12 then (some (!(decide ((a0_5.size : Int) > 120)))) else (some (!false)))) else (some (!true)))) else (if a0_0 = 9 then (if (a0_5.size : Int) = 64 then (if a0_0 = 12 then (some (!(decide ((a0_5.size : Int) > 120)))) else (some (!false))) else (some (!true))) else (if a0_0 = 12 then (some (!(decide ((a0_5.size : Int) > 120)))) else (some (!false))))))) else (if a0_0 = 3 then ((coppiceref12_Target.f kj40 a0_5).bind fun qk => (if qk = true then (if a0_0 = 9 then (if (a0_5.size : Int) = 64 then (if a0_0 = 12 then (some (!(decide ((a0_5.size : Int) > 120)))) else (some (!false))) else (some (!true))) else (if a0_0 = 12 then (some (!(decide ((a0_5.size : Int) > 120)))) else (some (!false)))) else (some (!true)))) else (if a0_0 = 9 then (if (a0_5.size : Int) = 64 then (if a0_0 = 12 then (some (!(decide ((a0_5.size : Int) > 120)))) else (some (!false))) else (some (!true))) else (if a0_0 = 12 then (some (!(decide ((a0_5.size : Int) > 120)))) else (some (!false))))))) = some r := by rw [if_neg (show ¬ (false = true) by decide)] at H; exact H
          clear H
          have H := H1
          clear H1
          replace H := Option.bind_eq_some_iff.mp H
          obtain ⟨⟨qh, qi⟩, A670, H⟩ := H
          replace H : (if qd = true then (if a0_4 < qh then (some false) else (if a0_4 > qi then (some false) else (if a0_0 = 3 then ((coppiceref12_Target.f kj40 a0_5).bind fun ql => (if ql = true then (if a0_0 = 9 then (if (a0_5.size : Int) = 64 then (if a0_0 = 12 then (some (!(decide ((a0_5.size : Int) > 120)))) else (some (!false))) else (some (!true))) else (if a0_0 = 12 then (some (!(decide ((a0_5.size : Int) > 120)))) else (some (!false)))) else (some (!true)))) else (if a0_0 = 9 then (if (a0_5.size : Int) = 64 then (if a0_0 = 12 then (some (!(decide ((a0_5.size : Int) > 120)))) else (some (!false))) else (some (!true))) else (if a0_0 = 12 then (some (!(decide ((a0_5.size : Int) > 120)))) else (some (!false))))))) else (if a0_0 = 3 then ((coppiceref12_Target.f kj40 a0_5).bind fun qk => (if qk = true then (if a0_0 = 9 then (if (a0_5.size : Int) = 64 then (if a0_0 = 12 then (some (!(decide ((a0_5.size : Int) > 120)))) else (some (!false))) else (some (!true))) else (if a0_0 = 12 then (some (!(decide ((a0_5.size : Int) > 120)))) else (some (!false)))) else (some (!true)))) else (if a0_0 = 9 then (if (a0_5.size : Int) = 64 then (if a0_0 = 12 then (some (!(decide ((a0_5.size : Int) > 120)))) else (some (!false))) else (some (!true))) else (if a0_0 = 12 then (some (!(decide ((a0_5.size : Int) > 120)))) else (some (!false)))))) = some r := H
          have A67 := Aside0.mk A670
          clear A670
          by_cases c68 : qd = true
          ·subst c68
           have H1 : (if a0_4 < qh then (some false) else (if a0_4 > qi then (some false) else (if a0_0 = 3 then ((coppiceref12_Target.f kj40 a0_5).bind fun ql => (if ql = true then (if a0_0 = 9 then (if (a0_5.size : Int) = 64 then (if a0_0 = 12 then (some (!(decide ((a0_5.size : Int) > 120)))) else (some (!false))) else (some (!true))) else (if a0_0 = 12 then (some (!(decide ((a0_5.size : Int) > 120)))) else (some (!false)))) else (some (!true)))) else (if a0_0 = 9 then (if (a0_5.size : Int) = 64 then (if a0_0 = 12 then (some (!(decide ((a0_5.size : Int) > 120)))) else (some (!false))) else (some (!true))) else (if a0_0 = 12 then (some (!(decide ((a0_5.size : Int) > 120)))) else (some (!false))))))) = some r := by rw [if_pos rfl] at H; exact H
           clear H
           have H := H1
           clear H1
           by_cases c69 : a0_4 < qh
           ·rw [if_pos c69] at H
            have c69b0 : decide (a0_4 < qh) = true := decide_eq_true c69
            clear c69
            obtain rfl := Option.some.inj H
            have hcz70_0 : wc.cell? ⟨qc, 0, none⟩ = some (.int .i64 a0_0) := (blk_cell qb.out 0).trans rfl
            have hcz70_1 : wc.cell? ⟨qc, 1, none⟩ = some (.string a0_1) := (blk_cell qb.out 1).trans rfl
            have hcz70_2 : wc.cell? ⟨qc, 2, none⟩ = some (.string a0_2) := (blk_cell qb.out 2).trans rfl
            have hcz70_3 : wc.cell? ⟨qc, 3, none⟩ = some (.string a0_3) := (blk_cell qb.out 3).trans rfl
            have hcz70_4 : wc.cell? ⟨qc, 4, none⟩ = some (.int .i64 a0_4) := (blk_cell qb.out 4).trans rfl
            have hcz70_5 : wc.cell? ⟨qc, 5, none⟩ = some (.string a0_5) := (blk_cell qb.out 5).trans rfl
            have hfz70_0 := blk_frozen qb.out 0
            have hfz70_1 := blk_frozen qb.out 1
            have hfz70_2 := blk_frozen qb.out 2
            have hfz70_3 := blk_frozen qb.out 3
            have hfz70_4 := blk_frozen qb.out 4
            have hfz70_5 := blk_frozen qb.out 5
            go_wp2_with (first | ((with_reducible refine gate_callee (f := 44) rfl ?_); refine goesL_ (some 99) rfl rfl Tryz.func44 (by kernel_rfl) rfl #[.int .i64 a0_0] rfl (by (try simp only [List.map_toArray, List.map_cons, List.map_nil]); (rfl)) ?_; (with_reducible refine (coppiceref19_bounds.calls kj40 a0_0 qh qi _ A67.out).mono ?_); rintro e w' ⟨rfl, ⟨nd, rfl⟩⟩; refine ⟨_, rfl, ?_⟩))
            go_ret
            exact ⟨by (rfl), by repeat (((with_reducible first | exact HB.out | apply pw_below_drewN )))⟩
           ·rw [if_neg c69] at H
            have c69b0 : decide (a0_4 < qh) = false := decide_eq_false c69
            clear c69
            by_cases c71 : a0_4 > qi
            ·rw [if_pos c71] at H
             have c71b0 : decide (qi < a0_4) = true := decide_eq_true c71
             clear c71
             obtain rfl := Option.some.inj H
             have hcz72_0 : wc.cell? ⟨qc, 0, none⟩ = some (.int .i64 a0_0) := (blk_cell qb.out 0).trans rfl
             have hcz72_1 : wc.cell? ⟨qc, 1, none⟩ = some (.string a0_1) := (blk_cell qb.out 1).trans rfl
             have hcz72_2 : wc.cell? ⟨qc, 2, none⟩ = some (.string a0_2) := (blk_cell qb.out 2).trans rfl
             have hcz72_3 : wc.cell? ⟨qc, 3, none⟩ = some (.string a0_3) := (blk_cell qb.out 3).trans rfl
             have hcz72_4 : wc.cell? ⟨qc, 4, none⟩ = some (.int .i64 a0_4) := (blk_cell qb.out 4).trans rfl
             have hcz72_5 : wc.cell? ⟨qc, 5, none⟩ = some (.string a0_5) := (blk_cell qb.out 5).trans rfl
             have hfz72_0 := blk_frozen qb.out 0
             have hfz72_1 := blk_frozen qb.out 1
             have hfz72_2 := blk_frozen qb.out 2
             have hfz72_3 := blk_frozen qb.out 3
             have hfz72_4 := blk_frozen qb.out 4
             have hfz72_5 := blk_frozen qb.out 5
             go_wp2_with (first | ((with_reducible refine gate_callee (f := 44) rfl ?_); refine goesL_ (some 99) rfl rfl Tryz.func44 (by kernel_rfl) rfl #[.int .i64 a0_0] rfl (by (try simp only [List.map_toArray, List.map_cons, List.map_nil]); (rfl)) ?_; (with_reducible refine (coppiceref19_bounds.calls kj40 a0_0 qh qi _ A67.out).mono ?_); rintro e w' ⟨rfl, ⟨nd, rfl⟩⟩; refine ⟨_, rfl, ?_⟩))
             go_ret
             exact ⟨by (rfl), by repeat (((with_reducible first | exact HB.out | apply pw_below_drewN )))⟩
            ·rw [if_neg c71] at H
             have c71b0 : decide (qi < a0_4) = false := decide_eq_false c71
             clear c71
             by_cases c73 : a0_0 = 3
             ·rw [if_pos c73] at H
              have c73b0 : (a0_0 == 3) = true := beq_iff_eq.mpr c73
              have c73b1 : (a0_0 != 3) = false := bne_eq_false_iff_eq.mpr c73
              clear c73
              replace H := Option.bind_eq_some_iff.mp H
              obtain ⟨ql, A740, H⟩ := H
              replace H : (if ql = true then (if a0_0 = 9 then (if (a0_5.size : Int) = 64 then (if a0_0 = 12 then (some (!(decide ((a0_5.size : Int) > 120)))) else (some (!false))) else (some (!true))) else (if a0_0 = 12 then (some (!(decide ((a0_5.size : Int) > 120)))) else (some (!false)))) else (some (!true))) = some r := H
              have A74 := Aside0.mk A740
              clear A740
              by_cases c75 : ql = true
              ·subst c75
               have H1 : (if a0_0 = 9 then (if (a0_5.size : Int) = 64 then (if a0_0 = 12 then (some (!(decide ((a0_5.size : Int) > 120)))) else (some (!false))) else (some (!true))) else (if a0_0 = 12 then (some (!(decide ((a0_5.size : Int) > 120)))) else (some (!false)))) = some r := by rw [if_pos rfl] at H; exact H
               clear H
               have H := H1
               clear H1
               by_cases c76 : a0_0 = 9
               ·rw [if_pos c76] at H
                have c76b0 : (a0_0 == 9) = true := beq_iff_eq.mpr c76
                have c76b1 : (a0_0 != 9) = false := bne_eq_false_iff_eq.mpr c76
                clear c76
                by_cases c77 : (a0_5.size : Int) = 64
                ·rw [if_pos c77] at H
                 have c77b0 : ((a0_5.size : Int) == 64) = true := beq_iff_eq.mpr c77
                 have c77b1 : ((a0_5.size : Int) != 64) = false := bne_eq_false_iff_eq.mpr c77
                 clear c77
                 by_cases c78 : a0_0 = 12
                 ·rw [if_pos c78] at H
                  have c78b0 : (a0_0 == 12) = true := beq_iff_eq.mpr c78
                  have c78b1 : (a0_0 != 12) = false := bne_eq_false_iff_eq.mpr c78
                  clear c78
                  obtain rfl := Option.some.inj H
                  have hcz79_0 : wc.cell? ⟨qc, 0, none⟩ = some (.int .i64 a0_0) := (blk_cell qb.out 0).trans rfl
                  have hcz79_1 : wc.cell? ⟨qc, 1, none⟩ = some (.string a0_1) := (blk_cell qb.out 1).trans rfl
                  have hcz79_2 : wc.cell? ⟨qc, 2, none⟩ = some (.string a0_2) := (blk_cell qb.out 2).trans rfl
                  have hcz79_3 : wc.cell? ⟨qc, 3, none⟩ = some (.string a0_3) := (blk_cell qb.out 3).trans rfl
                  have hcz79_4 : wc.cell? ⟨qc, 4, none⟩ = some (.int .i64 a0_4) := (blk_cell qb.out 4).trans rfl
                  have hcz79_5 : wc.cell? ⟨qc, 5, none⟩ = some (.string a0_5) := (blk_cell qb.out 5).trans rfl
                  have hfz79_0 := blk_frozen qb.out 0
                  have hfz79_1 := blk_frozen qb.out 1
                  have hfz79_2 := blk_frozen qb.out 2
                  have hfz79_3 := blk_frozen qb.out 3
                  have hfz79_4 := blk_frozen qb.out 4
                  have hfz79_5 := blk_frozen qb.out 5
                  go_wp2_with (first | ((with_reducible refine gate_callee (f := 44) rfl ?_); refine goesL_ (some 99) rfl rfl Tryz.func44 (by kernel_rfl) rfl #[.int .i64 a0_0] rfl (by (try simp only [List.map_toArray, List.map_cons, List.map_nil]); (rfl)) ?_; (with_reducible refine (coppiceref19_bounds.calls kj40 a0_0 qh qi _ A67.out).mono ?_); rintro e w' ⟨rfl, ⟨nd, rfl⟩⟩; refine ⟨_, rfl, ?_⟩) | (go_at_call 45; (with_reducible refine (coppiceref12_Target.calls kj40 a0_5 true _ A74.out).mono ?_); rintro e w' ⟨rfl, ⟨nd, rfl⟩⟩))
                  go_ret
                  exact ⟨by (rfl), by repeat (((with_reducible first | exact HB.out | apply pw_below_drewN )))⟩
                 ·rw [if_neg c78] at H
                  have c78b0 : (a0_0 == 12) = false := beq_eq_false_iff_ne.mpr c78
                  have c78b1 : (a0_0 != 12) = true := bne_iff_ne.mpr c78
                  obtain rfl := Option.some.inj H
                  have hcz80_0 : wc.cell? ⟨qc, 0, none⟩ = some (.int .i64 a0_0) := (blk_cell qb.out 0).trans rfl
                  have hcz80_1 : wc.cell? ⟨qc, 1, none⟩ = some (.string a0_1) := (blk_cell qb.out 1).trans rfl
                  have hcz80_2 : wc.cell? ⟨qc, 2, none⟩ = some (.string a0_2) := (blk_cell qb.out 2).trans rfl
                  have hcz80_3 : wc.cell? ⟨qc, 3, none⟩ = some (.string a0_3) := (blk_cell qb.out 3).trans rfl
                  have hcz80_4 : wc.cell? ⟨qc, 4, none⟩ = some (.int .i64 a0_4) := (blk_cell qb.out 4).trans rfl
                  have hcz80_5 : wc.cell? ⟨qc, 5, none⟩ = some (.string a0_5) := (blk_cell qb.out 5).trans rfl
                  have hfz80_0 := blk_frozen qb.out 0
                  have hfz80_1 := blk_frozen qb.out 1
                  have hfz80_2 := blk_frozen qb.out 2
                  have hfz80_3 := blk_frozen qb.out 3
                  have hfz80_4 := blk_frozen qb.out 4
                  have hfz80_5 := blk_frozen qb.out 5
                  go_wp2_with (first | ((with_reducible refine gate_callee (f := 44) rfl ?_); refine goesL_ (some 99) rfl rfl Tryz.func44 (by kernel_rfl) rfl #[.int .i64 a0_0] rfl (by (try simp only [List.map_toArray, List.map_cons, List.map_nil]); (rfl)) ?_; (with_reducible refine (coppiceref19_bounds.calls kj40 a0_0 qh qi _ A67.out).mono ?_); rintro e w' ⟨rfl, ⟨nd, rfl⟩⟩; refine ⟨_, rfl, ?_⟩) | (go_at_call 45; (with_reducible refine (coppiceref12_Target.calls kj40 a0_5 true _ A74.out).mono ?_); rintro e w' ⟨rfl, ⟨nd, rfl⟩⟩))
                  go_ret
                  exact ⟨by (rfl), by repeat (((with_reducible first | exact HB.out | apply pw_below_drewN )))⟩
                ·rw [if_neg c77] at H
                 have c77b0 : ((a0_5.size : Int) == 64) = false := beq_eq_false_iff_ne.mpr c77
                 have c77b1 : ((a0_5.size : Int) != 64) = true := bne_iff_ne.mpr c77
                 obtain rfl := Option.some.inj H
                 have hcz81_0 : wc.cell? ⟨qc, 0, none⟩ = some (.int .i64 a0_0) := (blk_cell qb.out 0).trans rfl
                 have hcz81_1 : wc.cell? ⟨qc, 1, none⟩ = some (.string a0_1) := (blk_cell qb.out 1).trans rfl
                 have hcz81_2 : wc.cell? ⟨qc, 2, none⟩ = some (.string a0_2) := (blk_cell qb.out 2).trans rfl
                 have hcz81_3 : wc.cell? ⟨qc, 3, none⟩ = some (.string a0_3) := (blk_cell qb.out 3).trans rfl
                 have hcz81_4 : wc.cell? ⟨qc, 4, none⟩ = some (.int .i64 a0_4) := (blk_cell qb.out 4).trans rfl
                 have hcz81_5 : wc.cell? ⟨qc, 5, none⟩ = some (.string a0_5) := (blk_cell qb.out 5).trans rfl
                 have hfz81_0 := blk_frozen qb.out 0
                 have hfz81_1 := blk_frozen qb.out 1
                 have hfz81_2 := blk_frozen qb.out 2
                 have hfz81_3 := blk_frozen qb.out 3
                 have hfz81_4 := blk_frozen qb.out 4
                 have hfz81_5 := blk_frozen qb.out 5
                 go_wp2_with (first | ((with_reducible refine gate_callee (f := 44) rfl ?_); refine goesL_ (some 99) rfl rfl Tryz.func44 (by kernel_rfl) rfl #[.int .i64 a0_0] rfl (by (try simp only [List.map_toArray, List.map_cons, List.map_nil]); (rfl)) ?_; (with_reducible refine (coppiceref19_bounds.calls kj40 a0_0 qh qi _ A67.out).mono ?_); rintro e w' ⟨rfl, ⟨nd, rfl⟩⟩; refine ⟨_, rfl, ?_⟩) | (go_at_call 45; (with_reducible refine (coppiceref12_Target.calls kj40 a0_5 true _ A74.out).mono ?_); rintro e w' ⟨rfl, ⟨nd, rfl⟩⟩))
                 go_ret
                 exact ⟨by (rfl), by repeat (((with_reducible first | exact HB.out | apply pw_below_drewN )))⟩
               ·rw [if_neg c76] at H
                have c76b0 : (a0_0 == 9) = false := beq_eq_false_iff_ne.mpr c76
                have c76b1 : (a0_0 != 9) = true := bne_iff_ne.mpr c76
                by_cases c82 : a0_0 = 12
                ·rw [if_pos c82] at H
                 have c82b0 : (a0_0 == 12) = true := beq_iff_eq.mpr c82
                 have c82b1 : (a0_0 != 12) = false := bne_eq_false_iff_eq.mpr c82
                 clear c82
                 obtain rfl := Option.some.inj H
                 have hcz83_0 : wc.cell? ⟨qc, 0, none⟩ = some (.int .i64 a0_0) := (blk_cell qb.out 0).trans rfl
                 have hcz83_1 : wc.cell? ⟨qc, 1, none⟩ = some (.string a0_1) := (blk_cell qb.out 1).trans rfl
                 have hcz83_2 : wc.cell? ⟨qc, 2, none⟩ = some (.string a0_2) := (blk_cell qb.out 2).trans rfl
                 have hcz83_3 : wc.cell? ⟨qc, 3, none⟩ = some (.string a0_3) := (blk_cell qb.out 3).trans rfl
                 have hcz83_4 : wc.cell? ⟨qc, 4, none⟩ = some (.int .i64 a0_4) := (blk_cell qb.out 4).trans rfl
                 have hcz83_5 : wc.cell? ⟨qc, 5, none⟩ = some (.string a0_5) := (blk_cell qb.out 5).trans rfl
                 have hfz83_0 := blk_frozen qb.out 0
                 have hfz83_1 := blk_frozen qb.out 1
                 have hfz83_2 := blk_frozen qb.out 2
                 have hfz83_3 := blk_frozen qb.out 3
                 have hfz83_4 := blk_frozen qb.out 4
                 have hfz83_5 := blk_frozen qb.out 5
                 go_wp2_with (first | ((with_reducible refine gate_callee (f := 44) rfl ?_); refine goesL_ (some 99) rfl rfl Tryz.func44 (by kernel_rfl) rfl #[.int .i64 a0_0] rfl (by (try simp only [List.map_toArray, List.map_cons, List.map_nil]); (rfl)) ?_; (with_reducible refine (coppiceref19_bounds.calls kj40 a0_0 qh qi _ A67.out).mono ?_); rintro e w' ⟨rfl, ⟨nd, rfl⟩⟩; refine ⟨_, rfl, ?_⟩) | (go_at_call 45; (with_reducible refine (coppiceref12_Target.calls kj40 a0_5 true _ A74.out).mono ?_); rintro e w' ⟨rfl, ⟨nd, rfl⟩⟩))
                 go_ret
                 exact ⟨by (rfl), by repeat (((with_reducible first | exact HB.out | apply pw_below_drewN )))⟩
                ·rw [if_neg c82] at H
                 have c82b0 : (a0_0 == 12) = false := beq_eq_false_iff_ne.mpr c82
                 have c82b1 : (a0_0 != 12) = true := bne_iff_ne.mpr c82
                 obtain rfl := Option.some.inj H
                 have hcz84_0 : wc.cell? ⟨qc, 0, none⟩ = some (.int .i64 a0_0) := (blk_cell qb.out 0).trans rfl
                 have hcz84_1 : wc.cell? ⟨qc, 1, none⟩ = some (.string a0_1) := (blk_cell qb.out 1).trans rfl
                 have hcz84_2 : wc.cell? ⟨qc, 2, none⟩ = some (.string a0_2) := (blk_cell qb.out 2).trans rfl
                 have hcz84_3 : wc.cell? ⟨qc, 3, none⟩ = some (.string a0_3) := (blk_cell qb.out 3).trans rfl
                 have hcz84_4 : wc.cell? ⟨qc, 4, none⟩ = some (.int .i64 a0_4) := (blk_cell qb.out 4).trans rfl
                 have hcz84_5 : wc.cell? ⟨qc, 5, none⟩ = some (.string a0_5) := (blk_cell qb.out 5).trans rfl
                 have hfz84_0 := blk_frozen qb.out 0
                 have hfz84_1 := blk_frozen qb.out 1
                 have hfz84_2 := blk_frozen qb.out 2
                 have hfz84_3 := blk_frozen qb.out 3
                 have hfz84_4 := blk_frozen qb.out 4
                 have hfz84_5 := blk_frozen qb.out 5
                 go_wp2_with (first | ((with_reducible refine gate_callee (f := 44) rfl ?_); refine goesL_ (some 99) rfl rfl Tryz.func44 (by kernel_rfl) rfl #[.int .i64 a0_0] rfl (by (try simp only [List.map_toArray, List.map_cons, List.map_nil]); (rfl)) ?_; (with_reducible refine (coppiceref19_bounds.calls kj40 a0_0 qh qi _ A67.out).mono ?_); rintro e w' ⟨rfl, ⟨nd, rfl⟩⟩; refine ⟨_, rfl, ?_⟩) | (go_at_call 45; (with_reducible refine (coppiceref12_Target.calls kj40 a0_5 true _ A74.out).mono ?_); rintro e w' ⟨rfl, ⟨nd, rfl⟩⟩))
                 go_ret
                 exact ⟨by (rfl), by repeat (((with_reducible first | exact HB.out | apply pw_below_drewN )))⟩
              ·replace c75 := Bool.eq_false_iff.mpr c75
               subst c75
               have H1 : (some (!true)) = some r := by rw [if_neg (show ¬ (false = true) by decide)] at H; exact H
               clear H
               have H := H1
               clear H1
               obtain rfl := Option.some.inj H
               have hcz85_0 : wc.cell? ⟨qc, 0, none⟩ = some (.int .i64 a0_0) := (blk_cell qb.out 0).trans rfl
               have hcz85_1 : wc.cell? ⟨qc, 1, none⟩ = some (.string a0_1) := (blk_cell qb.out 1).trans rfl
               have hcz85_2 : wc.cell? ⟨qc, 2, none⟩ = some (.string a0_2) := (blk_cell qb.out 2).trans rfl
               have hcz85_3 : wc.cell? ⟨qc, 3, none⟩ = some (.string a0_3) := (blk_cell qb.out 3).trans rfl
               have hcz85_4 : wc.cell? ⟨qc, 4, none⟩ = some (.int .i64 a0_4) := (blk_cell qb.out 4).trans rfl
               have hcz85_5 : wc.cell? ⟨qc, 5, none⟩ = some (.string a0_5) := (blk_cell qb.out 5).trans rfl
               have hfz85_0 := blk_frozen qb.out 0
               have hfz85_1 := blk_frozen qb.out 1
               have hfz85_2 := blk_frozen qb.out 2
               have hfz85_3 := blk_frozen qb.out 3
               have hfz85_4 := blk_frozen qb.out 4
               have hfz85_5 := blk_frozen qb.out 5
               go_wp2_with (first | ((with_reducible refine gate_callee (f := 44) rfl ?_); refine goesL_ (some 99) rfl rfl Tryz.func44 (by kernel_rfl) rfl #[.int .i64 a0_0] rfl (by (try simp only [List.map_toArray, List.map_cons, List.map_nil]); (rfl)) ?_; (with_reducible refine (coppiceref19_bounds.calls kj40 a0_0 qh qi _ A67.out).mono ?_); rintro e w' ⟨rfl, ⟨nd, rfl⟩⟩; refine ⟨_, rfl, ?_⟩) | (go_at_call 45; (with_reducible refine (coppiceref12_Target.calls kj40 a0_5 false _ A74.out).mono ?_); rintro e w' ⟨rfl, ⟨nd, rfl⟩⟩))
               go_ret
               exact ⟨by (rfl), by repeat (((with_reducible first | exact HB.out | apply pw_below_drewN )))⟩
             ·rw [if_neg c73] at H
              have c73b0 : (a0_0 == 3) = false := beq_eq_false_iff_ne.mpr c73
              have c73b1 : (a0_0 != 3) = true := bne_iff_ne.mpr c73
              by_cases c86 : a0_0 = 9
              ·rw [if_pos c86] at H
               have c86b0 : (a0_0 == 9) = true := beq_iff_eq.mpr c86
               have c86b1 : (a0_0 != 9) = false := bne_eq_false_iff_eq.mpr c86
               clear c86
               by_cases c87 : (a0_5.size : Int) = 64
               ·rw [if_pos c87] at H
                have c87b0 : ((a0_5.size : Int) == 64) = true := beq_iff_eq.mpr c87
                have c87b1 : ((a0_5.size : Int) != 64) = false := bne_eq_false_iff_eq.mpr c87
                clear c87
                by_cases c88 : a0_0 = 12
                ·rw [if_pos c88] at H
                 have c88b0 : (a0_0 == 12) = true := beq_iff_eq.mpr c88
                 have c88b1 : (a0_0 != 12) = false := bne_eq_false_iff_eq.mpr c88
                 clear c88
                 obtain rfl := Option.some.inj H
                 have hcz89_0 : wc.cell? ⟨qc, 0, none⟩ = some (.int .i64 a0_0) := (blk_cell qb.out 0).trans rfl
                 have hcz89_1 : wc.cell? ⟨qc, 1, none⟩ = some (.string a0_1) := (blk_cell qb.out 1).trans rfl
                 have hcz89_2 : wc.cell? ⟨qc, 2, none⟩ = some (.string a0_2) := (blk_cell qb.out 2).trans rfl
                 have hcz89_3 : wc.cell? ⟨qc, 3, none⟩ = some (.string a0_3) := (blk_cell qb.out 3).trans rfl
                 have hcz89_4 : wc.cell? ⟨qc, 4, none⟩ = some (.int .i64 a0_4) := (blk_cell qb.out 4).trans rfl
                 have hcz89_5 : wc.cell? ⟨qc, 5, none⟩ = some (.string a0_5) := (blk_cell qb.out 5).trans rfl
                 have hfz89_0 := blk_frozen qb.out 0
                 have hfz89_1 := blk_frozen qb.out 1
                 have hfz89_2 := blk_frozen qb.out 2
                 have hfz89_3 := blk_frozen qb.out 3
                 have hfz89_4 := blk_frozen qb.out 4
                 have hfz89_5 := blk_frozen qb.out 5
                 go_wp2_with (first | ((with_reducible refine gate_callee (f := 44) rfl ?_); refine goesL_ (some 99) rfl rfl Tryz.func44 (by kernel_rfl) rfl #[.int .i64 a0_0] rfl (by (try simp only [List.map_toArray, List.map_cons, List.map_nil]); (rfl)) ?_; (with_reducible refine (coppiceref19_bounds.calls kj40 a0_0 qh qi _ A67.out).mono ?_); rintro e w' ⟨rfl, ⟨nd, rfl⟩⟩; refine ⟨_, rfl, ?_⟩))
                 go_ret
                 exact ⟨by (rfl), by repeat (((with_reducible first | exact HB.out | apply pw_below_drewN )))⟩
                ·rw [if_neg c88] at H
                 have c88b0 : (a0_0 == 12) = false := beq_eq_false_iff_ne.mpr c88
                 have c88b1 : (a0_0 != 12) = true := bne_iff_ne.mpr c88
                 obtain rfl := Option.some.inj H
                 have hcz90_0 : wc.cell? ⟨qc, 0, none⟩ = some (.int .i64 a0_0) := (blk_cell qb.out 0).trans rfl
                 have hcz90_1 : wc.cell? ⟨qc, 1, none⟩ = some (.string a0_1) := (blk_cell qb.out 1).trans rfl
                 have hcz90_2 : wc.cell? ⟨qc, 2, none⟩ = some (.string a0_2) := (blk_cell qb.out 2).trans rfl
                 have hcz90_3 : wc.cell? ⟨qc, 3, none⟩ = some (.string a0_3) := (blk_cell qb.out 3).trans rfl
                 have hcz90_4 : wc.cell? ⟨qc, 4, none⟩ = some (.int .i64 a0_4) := (blk_cell qb.out 4).trans rfl
                 have hcz90_5 : wc.cell? ⟨qc, 5, none⟩ = some (.string a0_5) := (blk_cell qb.out 5).trans rfl
                 have hfz90_0 := blk_frozen qb.out 0
                 have hfz90_1 := blk_frozen qb.out 1
                 have hfz90_2 := blk_frozen qb.out 2
                 have hfz90_3 := blk_frozen qb.out 3
                 have hfz90_4 := blk_frozen qb.out 4
                 have hfz90_5 := blk_frozen qb.out 5
                 go_wp2_with (first | ((with_reducible refine gate_callee (f := 44) rfl ?_); refine goesL_ (some 99) rfl rfl Tryz.func44 (by kernel_rfl) rfl #[.int .i64 a0_0] rfl (by (try simp only [List.map_toArray, List.map_cons, List.map_nil]); (rfl)) ?_; (with_reducible refine (coppiceref19_bounds.calls kj40 a0_0 qh qi _ A67.out).mono ?_); rintro e w' ⟨rfl, ⟨nd, rfl⟩⟩; refine ⟨_, rfl, ?_⟩))
                 go_ret
                 exact ⟨by (rfl), by repeat (((with_reducible first | exact HB.out | apply pw_below_drewN )))⟩
               ·rw [if_neg c87] at H
                have c87b0 : ((a0_5.size : Int) == 64) = false := beq_eq_false_iff_ne.mpr c87
                have c87b1 : ((a0_5.size : Int) != 64) = true := bne_iff_ne.mpr c87
                obtain rfl := Option.some.inj H
                have hcz91_0 : wc.cell? ⟨qc, 0, none⟩ = some (.int .i64 a0_0) := (blk_cell qb.out 0).trans rfl
                have hcz91_1 : wc.cell? ⟨qc, 1, none⟩ = some (.string a0_1) := (blk_cell qb.out 1).trans rfl
                have hcz91_2 : wc.cell? ⟨qc, 2, none⟩ = some (.string a0_2) := (blk_cell qb.out 2).trans rfl
                have hcz91_3 : wc.cell? ⟨qc, 3, none⟩ = some (.string a0_3) := (blk_cell qb.out 3).trans rfl
                have hcz91_4 : wc.cell? ⟨qc, 4, none⟩ = some (.int .i64 a0_4) := (blk_cell qb.out 4).trans rfl
                have hcz91_5 : wc.cell? ⟨qc, 5, none⟩ = some (.string a0_5) := (blk_cell qb.out 5).trans rfl
                have hfz91_0 := blk_frozen qb.out 0
                have hfz91_1 := blk_frozen qb.out 1
                have hfz91_2 := blk_frozen qb.out 2
                have hfz91_3 := blk_frozen qb.out 3
                have hfz91_4 := blk_frozen qb.out 4
                have hfz91_5 := blk_frozen qb.out 5
                go_wp2_with (first | ((with_reducible refine gate_callee (f := 44) rfl ?_); refine goesL_ (some 99) rfl rfl Tryz.func44 (by kernel_rfl) rfl #[.int .i64 a0_0] rfl (by (try simp only [List.map_toArray, List.map_cons, List.map_nil]); (rfl)) ?_; (with_reducible refine (coppiceref19_bounds.calls kj40 a0_0 qh qi _ A67.out).mono ?_); rintro e w' ⟨rfl, ⟨nd, rfl⟩⟩; refine ⟨_, rfl, ?_⟩))
                go_ret
                exact ⟨by (rfl), by repeat (((with_reducible first | exact HB.out | apply pw_below_drewN )))⟩
              ·rw [if_neg c86] at H
               have c86b0 : (a0_0 == 9) = false := beq_eq_false_iff_ne.mpr c86
               have c86b1 : (a0_0 != 9) = true := bne_iff_ne.mpr c86
               by_cases c92 : a0_0 = 12
               ·rw [if_pos c92] at H
                have c92b0 : (a0_0 == 12) = true := beq_iff_eq.mpr c92
                have c92b1 : (a0_0 != 12) = false := bne_eq_false_iff_eq.mpr c92
                clear c92
                obtain rfl := Option.some.inj H
                have hcz93_0 : wc.cell? ⟨qc, 0, none⟩ = some (.int .i64 a0_0) := (blk_cell qb.out 0).trans rfl
                have hcz93_1 : wc.cell? ⟨qc, 1, none⟩ = some (.string a0_1) := (blk_cell qb.out 1).trans rfl
                have hcz93_2 : wc.cell? ⟨qc, 2, none⟩ = some (.string a0_2) := (blk_cell qb.out 2).trans rfl
                have hcz93_3 : wc.cell? ⟨qc, 3, none⟩ = some (.string a0_3) := (blk_cell qb.out 3).trans rfl
                have hcz93_4 : wc.cell? ⟨qc, 4, none⟩ = some (.int .i64 a0_4) := (blk_cell qb.out 4).trans rfl
                have hcz93_5 : wc.cell? ⟨qc, 5, none⟩ = some (.string a0_5) := (blk_cell qb.out 5).trans rfl
                have hfz93_0 := blk_frozen qb.out 0
                have hfz93_1 := blk_frozen qb.out 1
                have hfz93_2 := blk_frozen qb.out 2
                have hfz93_3 := blk_frozen qb.out 3
                have hfz93_4 := blk_frozen qb.out 4
                have hfz93_5 := blk_frozen qb.out 5
                go_wp2_with (first | ((with_reducible refine gate_callee (f := 44) rfl ?_); refine goesL_ (some 99) rfl rfl Tryz.func44 (by kernel_rfl) rfl #[.int .i64 a0_0] rfl (by (try simp only [List.map_toArray, List.map_cons, List.map_nil]); (rfl)) ?_; (with_reducible refine (coppiceref19_bounds.calls kj40 a0_0 qh qi _ A67.out).mono ?_); rintro e w' ⟨rfl, ⟨nd, rfl⟩⟩; refine ⟨_, rfl, ?_⟩))
                go_ret
                exact ⟨by (rfl), by repeat (((with_reducible first | exact HB.out | apply pw_below_drewN )))⟩
               ·rw [if_neg c92] at H
                have c92b0 : (a0_0 == 12) = false := beq_eq_false_iff_ne.mpr c92
                have c92b1 : (a0_0 != 12) = true := bne_iff_ne.mpr c92
                obtain rfl := Option.some.inj H
                have hcz94_0 : wc.cell? ⟨qc, 0, none⟩ = some (.int .i64 a0_0) := (blk_cell qb.out 0).trans rfl
                have hcz94_1 : wc.cell? ⟨qc, 1, none⟩ = some (.string a0_1) := (blk_cell qb.out 1).trans rfl
                have hcz94_2 : wc.cell? ⟨qc, 2, none⟩ = some (.string a0_2) := (blk_cell qb.out 2).trans rfl
                have hcz94_3 : wc.cell? ⟨qc, 3, none⟩ = some (.string a0_3) := (blk_cell qb.out 3).trans rfl
                have hcz94_4 : wc.cell? ⟨qc, 4, none⟩ = some (.int .i64 a0_4) := (blk_cell qb.out 4).trans rfl
                have hcz94_5 : wc.cell? ⟨qc, 5, none⟩ = some (.string a0_5) := (blk_cell qb.out 5).trans rfl
                have hfz94_0 := blk_frozen qb.out 0
                have hfz94_1 := blk_frozen qb.out 1
                have hfz94_2 := blk_frozen qb.out 2
                have hfz94_3 := blk_frozen qb.out 3
                have hfz94_4 := blk_frozen qb.out 4
                have hfz94_5 := blk_frozen qb.out 5
                go_wp2_with (first | ((with_reducible refine gate_callee (f := 44) rfl ?_); refine goesL_ (some 99) rfl rfl Tryz.func44 (by kernel_rfl) rfl #[.int .i64 a0_0] rfl (by (try simp only [List.map_toArray, List.map_cons, List.map_nil]); (rfl)) ?_; (with_reducible refine (coppiceref19_bounds.calls kj40 a0_0 qh qi _ A67.out).mono ?_); rintro e w' ⟨rfl, ⟨nd, rfl⟩⟩; refine ⟨_, rfl, ?_⟩))
                go_ret
                exact ⟨by (rfl), by repeat (((with_reducible first | exact HB.out | apply pw_below_drewN )))⟩
          ·replace c68 := Bool.eq_false_iff.mpr c68
           subst c68
           have H1 : (if a0_0 = 3 then ((coppiceref12_Target.f kj40 a0_5).bind fun qk => (if qk = true then (if a0_0 = 9 then (if (a0_5.size : Int) = 64 then (if a0_0 = 12 then (some (!(decide ((a0_5.size : Int) > 120)))) else (some (!false))) else (some (!true))) else (if a0_0 = 12 then (some (!(decide ((a0_5.size : Int) > 120)))) else (some (!false)))) else (some (!true)))) else (if a0_0 = 9 then (if (a0_5.size : Int) = 64 then (if a0_0 = 12 then (some (!(decide ((a0_5.size : Int) > 120)))) else (some (!false))) else (some (!true))) else (if a0_0 = 12 then (some (!(decide ((a0_5.size : Int) > 120)))) else (some (!false))))) = some r := by rw [if_neg (show ¬ (false = true) by decide)] at H; exact H
           clear H
           have H := H1
           clear H1
           by_cases c95 : a0_0 = 3
           ·rw [if_pos c95] at H
            have c95b0 : (a0_0 == 3) = true := beq_iff_eq.mpr c95
            have c95b1 : (a0_0 != 3) = false := bne_eq_false_iff_eq.mpr c95
            clear c95
            replace H := Option.bind_eq_some_iff.mp H
            obtain ⟨qk, A960, H⟩ := H
            replace H : (if qk = true then (if a0_0 = 9 then (if (a0_5.size : Int) = 64 then (if a0_0 = 12 then (some (!(decide ((a0_5.size : Int) > 120)))) else (some (!false))) else (some (!true))) else (if a0_0 = 12 then (some (!(decide ((a0_5.size : Int) > 120)))) else (some (!false)))) else (some (!true))) = some r := H
            have A96 := Aside0.mk A960
            clear A960
            by_cases c97 : qk = true
            ·subst c97
             have H1 : (if a0_0 = 9 then (if (a0_5.size : Int) = 64 then (if a0_0 = 12 then (some (!(decide ((a0_5.size : Int) > 120)))) else (some (!false))) else (some (!true))) else (if a0_0 = 12 then (some (!(decide ((a0_5.size : Int) > 120)))) else (some (!false)))) = some r := by rw [if_pos rfl] at H; exact H
             clear H
             have H := H1
             clear H1
             by_cases c98 : a0_0 = 9
             ·rw [if_pos c98] at H
              have c98b0 : (a0_0 == 9) = true := beq_iff_eq.mpr c98
              have c98b1 : (a0_0 != 9) = false := bne_eq_false_iff_eq.mpr c98
              clear c98
              by_cases c99 : (a0_5.size : Int) = 64
              ·rw [if_pos c99] at H
               have c99b0 : ((a0_5.size : Int) == 64) = true := beq_iff_eq.mpr c99
               have c99b1 : ((a0_5.size : Int) != 64) = false := bne_eq_false_iff_eq.mpr c99
               clear c99
               by_cases c100 : a0_0 = 12
               ·rw [if_pos c100] at H
                have c100b0 : (a0_0 == 12) = true := beq_iff_eq.mpr c100
                have c100b1 : (a0_0 != 12) = false := bne_eq_false_iff_eq.mpr c100
                clear c100
                obtain rfl := Option.some.inj H
                have hcz101_0 : wc.cell? ⟨qc, 0, none⟩ = some (.int .i64 a0_0) := (blk_cell qb.out 0).trans rfl
                have hcz101_1 : wc.cell? ⟨qc, 1, none⟩ = some (.string a0_1) := (blk_cell qb.out 1).trans rfl
                have hcz101_2 : wc.cell? ⟨qc, 2, none⟩ = some (.string a0_2) := (blk_cell qb.out 2).trans rfl
                have hcz101_3 : wc.cell? ⟨qc, 3, none⟩ = some (.string a0_3) := (blk_cell qb.out 3).trans rfl
                have hcz101_4 : wc.cell? ⟨qc, 4, none⟩ = some (.int .i64 a0_4) := (blk_cell qb.out 4).trans rfl
                have hcz101_5 : wc.cell? ⟨qc, 5, none⟩ = some (.string a0_5) := (blk_cell qb.out 5).trans rfl
                have hfz101_0 := blk_frozen qb.out 0
                have hfz101_1 := blk_frozen qb.out 1
                have hfz101_2 := blk_frozen qb.out 2
                have hfz101_3 := blk_frozen qb.out 3
                have hfz101_4 := blk_frozen qb.out 4
                have hfz101_5 := blk_frozen qb.out 5
                go_wp2_with (first | ((with_reducible refine gate_callee (f := 44) rfl ?_); refine goesL_ (some 99) rfl rfl Tryz.func44 (by kernel_rfl) rfl #[.int .i64 a0_0] rfl (by (try simp only [List.map_toArray, List.map_cons, List.map_nil]); (rfl)) ?_; (with_reducible refine (coppiceref19_bounds.calls kj40 a0_0 qh qi _ A67.out).mono ?_); rintro e w' ⟨rfl, ⟨nd, rfl⟩⟩; refine ⟨_, rfl, ?_⟩) | (go_at_call 45; (with_reducible refine (coppiceref12_Target.calls kj40 a0_5 true _ A96.out).mono ?_); rintro e w' ⟨rfl, ⟨nd, rfl⟩⟩))
                go_ret
                exact ⟨by (rfl), by repeat (((with_reducible first | exact HB.out | apply pw_below_drewN )))⟩
               ·rw [if_neg c100] at H
                have c100b0 : (a0_0 == 12) = false := beq_eq_false_iff_ne.mpr c100
                have c100b1 : (a0_0 != 12) = true := bne_iff_ne.mpr c100
                obtain rfl := Option.some.inj H
                have hcz102_0 : wc.cell? ⟨qc, 0, none⟩ = some (.int .i64 a0_0) := (blk_cell qb.out 0).trans rfl
                have hcz102_1 : wc.cell? ⟨qc, 1, none⟩ = some (.string a0_1) := (blk_cell qb.out 1).trans rfl
                have hcz102_2 : wc.cell? ⟨qc, 2, none⟩ = some (.string a0_2) := (blk_cell qb.out 2).trans rfl
                have hcz102_3 : wc.cell? ⟨qc, 3, none⟩ = some (.string a0_3) := (blk_cell qb.out 3).trans rfl
                have hcz102_4 : wc.cell? ⟨qc, 4, none⟩ = some (.int .i64 a0_4) := (blk_cell qb.out 4).trans rfl
                have hcz102_5 : wc.cell? ⟨qc, 5, none⟩ = some (.string a0_5) := (blk_cell qb.out 5).trans rfl
                have hfz102_0 := blk_frozen qb.out 0
                have hfz102_1 := blk_frozen qb.out 1
                have hfz102_2 := blk_frozen qb.out 2
                have hfz102_3 := blk_frozen qb.out 3
                have hfz102_4 := blk_frozen qb.out 4
                have hfz102_5 := blk_frozen qb.out 5
                go_wp2_with (first | ((with_reducible refine gate_callee (f := 44) rfl ?_); refine goesL_ (some 99) rfl rfl Tryz.func44 (by kernel_rfl) rfl #[.int .i64 a0_0] rfl (by (try simp only [List.map_toArray, List.map_cons, List.map_nil]); (rfl)) ?_; (with_reducible refine (coppiceref19_bounds.calls kj40 a0_0 qh qi _ A67.out).mono ?_); rintro e w' ⟨rfl, ⟨nd, rfl⟩⟩; refine ⟨_, rfl, ?_⟩) | (go_at_call 45; (with_reducible refine (coppiceref12_Target.calls kj40 a0_5 true _ A96.out).mono ?_); rintro e w' ⟨rfl, ⟨nd, rfl⟩⟩))
                go_ret
                exact ⟨by (rfl), by repeat (((with_reducible first | exact HB.out | apply pw_below_drewN )))⟩
              ·rw [if_neg c99] at H
               have c99b0 : ((a0_5.size : Int) == 64) = false := beq_eq_false_iff_ne.mpr c99
               have c99b1 : ((a0_5.size : Int) != 64) = true := bne_iff_ne.mpr c99
               obtain rfl := Option.some.inj H
               have hcz103_0 : wc.cell? ⟨qc, 0, none⟩ = some (.int .i64 a0_0) := (blk_cell qb.out 0).trans rfl
               have hcz103_1 : wc.cell? ⟨qc, 1, none⟩ = some (.string a0_1) := (blk_cell qb.out 1).trans rfl
               have hcz103_2 : wc.cell? ⟨qc, 2, none⟩ = some (.string a0_2) := (blk_cell qb.out 2).trans rfl
               have hcz103_3 : wc.cell? ⟨qc, 3, none⟩ = some (.string a0_3) := (blk_cell qb.out 3).trans rfl
               have hcz103_4 : wc.cell? ⟨qc, 4, none⟩ = some (.int .i64 a0_4) := (blk_cell qb.out 4).trans rfl
               have hcz103_5 : wc.cell? ⟨qc, 5, none⟩ = some (.string a0_5) := (blk_cell qb.out 5).trans rfl
               have hfz103_0 := blk_frozen qb.out 0
               have hfz103_1 := blk_frozen qb.out 1
               have hfz103_2 := blk_frozen qb.out 2
               have hfz103_3 := blk_frozen qb.out 3
               have hfz103_4 := blk_frozen qb.out 4
               have hfz103_5 := blk_frozen qb.out 5
               go_wp2_with (first | ((with_reducible refine gate_callee (f := 44) rfl ?_); refine goesL_ (some 99) rfl rfl Tryz.func44 (by kernel_rfl) rfl #[.int .i64 a0_0] rfl (by (try simp only [List.map_toArray, List.map_cons, List.map_nil]); (rfl)) ?_; (with_reducible refine (coppiceref19_bounds.calls kj40 a0_0 qh qi _ A67.out).mono ?_); rintro e w' ⟨rfl, ⟨nd, rfl⟩⟩; refine ⟨_, rfl, ?_⟩) | (go_at_call 45; (with_reducible refine (coppiceref12_Target.calls kj40 a0_5 true _ A96.out).mono ?_); rintro e w' ⟨rfl, ⟨nd, rfl⟩⟩))
               go_ret
               exact ⟨by (rfl), by repeat (((with_reducible first | exact HB.out | apply pw_below_drewN )))⟩
             ·rw [if_neg c98] at H
              have c98b0 : (a0_0 == 9) = false := beq_eq_false_iff_ne.mpr c98
              have c98b1 : (a0_0 != 9) = true := bne_iff_ne.mpr c98
              by_cases c104 : a0_0 = 12
              ·rw [if_pos c104] at H
               have c104b0 : (a0_0 == 12) = true := beq_iff_eq.mpr c104
               have c104b1 : (a0_0 != 12) = false := bne_eq_false_iff_eq.mpr c104
               clear c104
               obtain rfl := Option.some.inj H
               have hcz105_0 : wc.cell? ⟨qc, 0, none⟩ = some (.int .i64 a0_0) := (blk_cell qb.out 0).trans rfl
               have hcz105_1 : wc.cell? ⟨qc, 1, none⟩ = some (.string a0_1) := (blk_cell qb.out 1).trans rfl
               have hcz105_2 : wc.cell? ⟨qc, 2, none⟩ = some (.string a0_2) := (blk_cell qb.out 2).trans rfl
               have hcz105_3 : wc.cell? ⟨qc, 3, none⟩ = some (.string a0_3) := (blk_cell qb.out 3).trans rfl
               have hcz105_4 : wc.cell? ⟨qc, 4, none⟩ = some (.int .i64 a0_4) := (blk_cell qb.out 4).trans rfl
               have hcz105_5 : wc.cell? ⟨qc, 5, none⟩ = some (.string a0_5) := (blk_cell qb.out 5).trans rfl
               have hfz105_0 := blk_frozen qb.out 0
               have hfz105_1 := blk_frozen qb.out 1
               have hfz105_2 := blk_frozen qb.out 2
               have hfz105_3 := blk_frozen qb.out 3
               have hfz105_4 := blk_frozen qb.out 4
               have hfz105_5 := blk_frozen qb.out 5
               go_wp2_with (first | ((with_reducible refine gate_callee (f := 44) rfl ?_); refine goesL_ (some 99) rfl rfl Tryz.func44 (by kernel_rfl) rfl #[.int .i64 a0_0] rfl (by (try simp only [List.map_toArray, List.map_cons, List.map_nil]); (rfl)) ?_; (with_reducible refine (coppiceref19_bounds.calls kj40 a0_0 qh qi _ A67.out).mono ?_); rintro e w' ⟨rfl, ⟨nd, rfl⟩⟩; refine ⟨_, rfl, ?_⟩) | (go_at_call 45; (with_reducible refine (coppiceref12_Target.calls kj40 a0_5 true _ A96.out).mono ?_); rintro e w' ⟨rfl, ⟨nd, rfl⟩⟩))
               go_ret
               exact ⟨by (rfl), by repeat (((with_reducible first | exact HB.out | apply pw_below_drewN )))⟩
              ·rw [if_neg c104] at H
               have c104b0 : (a0_0 == 12) = false := beq_eq_false_iff_ne.mpr c104
               have c104b1 : (a0_0 != 12) = true := bne_iff_ne.mpr c104
               obtain rfl := Option.some.inj H
               have hcz106_0 : wc.cell? ⟨qc, 0, none⟩ = some (.int .i64 a0_0) := (blk_cell qb.out 0).trans rfl
               have hcz106_1 : wc.cell? ⟨qc, 1, none⟩ = some (.string a0_1) := (blk_cell qb.out 1).trans rfl
               have hcz106_2 : wc.cell? ⟨qc, 2, none⟩ = some (.string a0_2) := (blk_cell qb.out 2).trans rfl
               have hcz106_3 : wc.cell? ⟨qc, 3, none⟩ = some (.string a0_3) := (blk_cell qb.out 3).trans rfl
               have hcz106_4 : wc.cell? ⟨qc, 4, none⟩ = some (.int .i64 a0_4) := (blk_cell qb.out 4).trans rfl
               have hcz106_5 : wc.cell? ⟨qc, 5, none⟩ = some (.string a0_5) := (blk_cell qb.out 5).trans rfl
               have hfz106_0 := blk_frozen qb.out 0
               have hfz106_1 := blk_frozen qb.out 1
               have hfz106_2 := blk_frozen qb.out 2
               have hfz106_3 := blk_frozen qb.out 3
               have hfz106_4 := blk_frozen qb.out 4
               have hfz106_5 := blk_frozen qb.out 5
               go_wp2_with (first | ((with_reducible refine gate_callee (f := 44) rfl ?_); refine goesL_ (some 99) rfl rfl Tryz.func44 (by kernel_rfl) rfl #[.int .i64 a0_0] rfl (by (try simp only [List.map_toArray, List.map_cons, List.map_nil]); (rfl)) ?_; (with_reducible refine (coppiceref19_bounds.calls kj40 a0_0 qh qi _ A67.out).mono ?_); rintro e w' ⟨rfl, ⟨nd, rfl⟩⟩; refine ⟨_, rfl, ?_⟩) | (go_at_call 45; (with_reducible refine (coppiceref12_Target.calls kj40 a0_5 true _ A96.out).mono ?_); rintro e w' ⟨rfl, ⟨nd, rfl⟩⟩))
               go_ret
               exact ⟨by (rfl), by repeat (((with_reducible first | exact HB.out | apply pw_below_drewN )))⟩
            ·replace c97 := Bool.eq_false_iff.mpr c97
             subst c97
             have H1 : (some (!true)) = some r := by rw [if_neg (show ¬ (false = true) by decide)] at H; exact H
             clear H
             have H := H1
             clear H1
             obtain rfl := Option.some.inj H
             have hcz107_0 : wc.cell? ⟨qc, 0, none⟩ = some (.int .i64 a0_0) := (blk_cell qb.out 0).trans rfl
             have hcz107_1 : wc.cell? ⟨qc, 1, none⟩ = some (.string a0_1) := (blk_cell qb.out 1).trans rfl
             have hcz107_2 : wc.cell? ⟨qc, 2, none⟩ = some (.string a0_2) := (blk_cell qb.out 2).trans rfl
             have hcz107_3 : wc.cell? ⟨qc, 3, none⟩ = some (.string a0_3) := (blk_cell qb.out 3).trans rfl
             have hcz107_4 : wc.cell? ⟨qc, 4, none⟩ = some (.int .i64 a0_4) := (blk_cell qb.out 4).trans rfl
             have hcz107_5 : wc.cell? ⟨qc, 5, none⟩ = some (.string a0_5) := (blk_cell qb.out 5).trans rfl
             have hfz107_0 := blk_frozen qb.out 0
             have hfz107_1 := blk_frozen qb.out 1
             have hfz107_2 := blk_frozen qb.out 2
             have hfz107_3 := blk_frozen qb.out 3
             have hfz107_4 := blk_frozen qb.out 4
             have hfz107_5 := blk_frozen qb.out 5
             go_wp2_with (first | ((with_reducible refine gate_callee (f := 44) rfl ?_); refine goesL_ (some 99) rfl rfl Tryz.func44 (by kernel_rfl) rfl #[.int .i64 a0_0] rfl (by (try simp only [List.map_toArray, List.map_cons, List.map_nil]); (rfl)) ?_; (with_reducible refine (coppiceref19_bounds.calls kj40 a0_0 qh qi _ A67.out).mono ?_); rintro e w' ⟨rfl, ⟨nd, rfl⟩⟩; refine ⟨_, rfl, ?_⟩) | (go_at_call 45; (with_reducible refine (coppiceref12_Target.calls kj40 a0_5 false _ A96.out).mono ?_); rintro e w' ⟨rfl, ⟨nd, rfl⟩⟩))
             go_ret
             exact ⟨by (rfl), by repeat (((with_reducible first | exact HB.out | apply pw_below_drewN )))⟩
           ·rw [if_neg c95] at H
            have c95b0 : (a0_0 == 3) = false := beq_eq_false_iff_ne.mpr c95
            have c95b1 : (a0_0 != 3) = true := bne_iff_ne.mpr c95
            by_cases c108 : a0_0 = 9
            ·rw [if_pos c108] at H
             have c108b0 : (a0_0 == 9) = true := beq_iff_eq.mpr c108
             have c108b1 : (a0_0 != 9) = false := bne_eq_false_iff_eq.mpr c108
             clear c108
             by_cases c109 : (a0_5.size : Int) = 64
             ·rw [if_pos c109] at H
              have c109b0 : ((a0_5.size : Int) == 64) = true := beq_iff_eq.mpr c109
              have c109b1 : ((a0_5.size : Int) != 64) = false := bne_eq_false_iff_eq.mpr c109
              clear c109
              by_cases c110 : a0_0 = 12
              ·rw [if_pos c110] at H
               have c110b0 : (a0_0 == 12) = true := beq_iff_eq.mpr c110
               have c110b1 : (a0_0 != 12) = false := bne_eq_false_iff_eq.mpr c110
               clear c110
               obtain rfl := Option.some.inj H
               have hcz111_0 : wc.cell? ⟨qc, 0, none⟩ = some (.int .i64 a0_0) := (blk_cell qb.out 0).trans rfl
               have hcz111_1 : wc.cell? ⟨qc, 1, none⟩ = some (.string a0_1) := (blk_cell qb.out 1).trans rfl
               have hcz111_2 : wc.cell? ⟨qc, 2, none⟩ = some (.string a0_2) := (blk_cell qb.out 2).trans rfl
               have hcz111_3 : wc.cell? ⟨qc, 3, none⟩ = some (.string a0_3) := (blk_cell qb.out 3).trans rfl
               have hcz111_4 : wc.cell? ⟨qc, 4, none⟩ = some (.int .i64 a0_4) := (blk_cell qb.out 4).trans rfl
               have hcz111_5 : wc.cell? ⟨qc, 5, none⟩ = some (.string a0_5) := (blk_cell qb.out 5).trans rfl
               have hfz111_0 := blk_frozen qb.out 0
               have hfz111_1 := blk_frozen qb.out 1
               have hfz111_2 := blk_frozen qb.out 2
               have hfz111_3 := blk_frozen qb.out 3
               have hfz111_4 := blk_frozen qb.out 4
               have hfz111_5 := blk_frozen qb.out 5
               go_wp2_with (first | ((with_reducible refine gate_callee (f := 44) rfl ?_); refine goesL_ (some 99) rfl rfl Tryz.func44 (by kernel_rfl) rfl #[.int .i64 a0_0] rfl (by (try simp only [List.map_toArray, List.map_cons, List.map_nil]); (rfl)) ?_; (with_reducible refine (coppiceref19_bounds.calls kj40 a0_0 qh qi _ A67.out).mono ?_); rintro e w' ⟨rfl, ⟨nd, rfl⟩⟩; refine ⟨_, rfl, ?_⟩))
               go_ret
               exact ⟨by (rfl), by repeat (((with_reducible first | exact HB.out | apply pw_below_drewN )))⟩
              ·rw [if_neg c110] at H
               have c110b0 : (a0_0 == 12) = false := beq_eq_false_iff_ne.mpr c110
               have c110b1 : (a0_0 != 12) = true := bne_iff_ne.mpr c110
               obtain rfl := Option.some.inj H
               have hcz112_0 : wc.cell? ⟨qc, 0, none⟩ = some (.int .i64 a0_0) := (blk_cell qb.out 0).trans rfl
               have hcz112_1 : wc.cell? ⟨qc, 1, none⟩ = some (.string a0_1) := (blk_cell qb.out 1).trans rfl
               have hcz112_2 : wc.cell? ⟨qc, 2, none⟩ = some (.string a0_2) := (blk_cell qb.out 2).trans rfl
               have hcz112_3 : wc.cell? ⟨qc, 3, none⟩ = some (.string a0_3) := (blk_cell qb.out 3).trans rfl
               have hcz112_4 : wc.cell? ⟨qc, 4, none⟩ = some (.int .i64 a0_4) := (blk_cell qb.out 4).trans rfl
               have hcz112_5 : wc.cell? ⟨qc, 5, none⟩ = some (.string a0_5) := (blk_cell qb.out 5).trans rfl
               have hfz112_0 := blk_frozen qb.out 0
               have hfz112_1 := blk_frozen qb.out 1
               have hfz112_2 := blk_frozen qb.out 2
               have hfz112_3 := blk_frozen qb.out 3
               have hfz112_4 := blk_frozen qb.out 4
               have hfz112_5 := blk_frozen qb.out 5
               go_wp2_with (first | ((with_reducible refine gate_callee (f := 44) rfl ?_); refine goesL_ (some 99) rfl rfl Tryz.func44 (by kernel_rfl) rfl #[.int .i64 a0_0] rfl (by (try simp only [List.map_toArray, List.map_cons, List.map_nil]); (rfl)) ?_; (with_reducible refine (coppiceref19_bounds.calls kj40 a0_0 qh qi _ A67.out).mono ?_); rintro e w' ⟨rfl, ⟨nd, rfl⟩⟩; refine ⟨_, rfl, ?_⟩))
               go_ret
               exact ⟨by (rfl), by repeat (((with_reducible first | exact HB.out | apply pw_below_drewN )))⟩
             ·rw [if_neg c109] at H
              have c109b0 : ((a0_5.size : Int) == 64) = false := beq_eq_false_iff_ne.mpr c109
              have c109b1 : ((a0_5.size : Int) != 64) = true := bne_iff_ne.mpr c109
              obtain rfl := Option.some.inj H
              have hcz113_0 : wc.cell? ⟨qc, 0, none⟩ = some (.int .i64 a0_0) := (blk_cell qb.out 0).trans rfl
              have hcz113_1 : wc.cell? ⟨qc, 1, none⟩ = some (.string a0_1) := (blk_cell qb.out 1).trans rfl
              have hcz113_2 : wc.cell? ⟨qc, 2, none⟩ = some (.string a0_2) := (blk_cell qb.out 2).trans rfl
              have hcz113_3 : wc.cell? ⟨qc, 3, none⟩ = some (.string a0_3) := (blk_cell qb.out 3).trans rfl
              have hcz113_4 : wc.cell? ⟨qc, 4, none⟩ = some (.int .i64 a0_4) := (blk_cell qb.out 4).trans rfl
              have hcz113_5 : wc.cell? ⟨qc, 5, none⟩ = some (.string a0_5) := (blk_cell qb.out 5).trans rfl
              have hfz113_0 := blk_frozen qb.out 0
              have hfz113_1 := blk_frozen qb.out 1
              have hfz113_2 := blk_frozen qb.out 2
              have hfz113_3 := blk_frozen qb.out 3
              have hfz113_4 := blk_frozen qb.out 4
              have hfz113_5 := blk_frozen qb.out 5
              go_wp2_with (first | ((with_reducible refine gate_callee (f := 44) rfl ?_); refine goesL_ (some 99) rfl rfl Tryz.func44 (by kernel_rfl) rfl #[.int .i64 a0_0] rfl (by (try simp only [List.map_toArray, List.map_cons, List.map_nil]); (rfl)) ?_; (with_reducible refine (coppiceref19_bounds.calls kj40 a0_0 qh qi _ A67.out).mono ?_); rintro e w' ⟨rfl, ⟨nd, rfl⟩⟩; refine ⟨_, rfl, ?_⟩))
              go_ret
              exact ⟨by (rfl), by repeat (((with_reducible first | exact HB.out | apply pw_below_drewN )))⟩
            ·rw [if_neg c108] at H
             have c108b0 : (a0_0 == 9) = false := beq_eq_false_iff_ne.mpr c108
             have c108b1 : (a0_0 != 9) = true := bne_iff_ne.mpr c108
             by_cases c114 : a0_0 = 12
             ·rw [if_pos c114] at H
              have c114b0 : (a0_0 == 12) = true := beq_iff_eq.mpr c114
              have c114b1 : (a0_0 != 12) = false := bne_eq_false_iff_eq.mpr c114
              clear c114
              obtain rfl := Option.some.inj H
              have hcz115_0 : wc.cell? ⟨qc, 0, none⟩ = some (.int .i64 a0_0) := (blk_cell qb.out 0).trans rfl
              have hcz115_1 : wc.cell? ⟨qc, 1, none⟩ = some (.string a0_1) := (blk_cell qb.out 1).trans rfl
              have hcz115_2 : wc.cell? ⟨qc, 2, none⟩ = some (.string a0_2) := (blk_cell qb.out 2).trans rfl
              have hcz115_3 : wc.cell? ⟨qc, 3, none⟩ = some (.string a0_3) := (blk_cell qb.out 3).trans rfl
              have hcz115_4 : wc.cell? ⟨qc, 4, none⟩ = some (.int .i64 a0_4) := (blk_cell qb.out 4).trans rfl
              have hcz115_5 : wc.cell? ⟨qc, 5, none⟩ = some (.string a0_5) := (blk_cell qb.out 5).trans rfl
              have hfz115_0 := blk_frozen qb.out 0
              have hfz115_1 := blk_frozen qb.out 1
              have hfz115_2 := blk_frozen qb.out 2
              have hfz115_3 := blk_frozen qb.out 3
              have hfz115_4 := blk_frozen qb.out 4
              have hfz115_5 := blk_frozen qb.out 5
              go_wp2_with (first | ((with_reducible refine gate_callee (f := 44) rfl ?_); refine goesL_ (some 99) rfl rfl Tryz.func44 (by kernel_rfl) rfl #[.int .i64 a0_0] rfl (by (try simp only [List.map_toArray, List.map_cons, List.map_nil]); (rfl)) ?_; (with_reducible refine (coppiceref19_bounds.calls kj40 a0_0 qh qi _ A67.out).mono ?_); rintro e w' ⟨rfl, ⟨nd, rfl⟩⟩; refine ⟨_, rfl, ?_⟩))
              go_ret
              exact ⟨by (rfl), by repeat (((with_reducible first | exact HB.out | apply pw_below_drewN )))⟩
             ·rw [if_neg c114] at H
              have c114b0 : (a0_0 == 12) = false := beq_eq_false_iff_ne.mpr c114
              have c114b1 : (a0_0 != 12) = true := bne_iff_ne.mpr c114
              obtain rfl := Option.some.inj H
              have hcz116_0 : wc.cell? ⟨qc, 0, none⟩ = some (.int .i64 a0_0) := (blk_cell qb.out 0).trans rfl
              have hcz116_1 : wc.cell? ⟨qc, 1, none⟩ = some (.string a0_1) := (blk_cell qb.out 1).trans rfl
              have hcz116_2 : wc.cell? ⟨qc, 2, none⟩ = some (.string a0_2) := (blk_cell qb.out 2).trans rfl
              have hcz116_3 : wc.cell? ⟨qc, 3, none⟩ = some (.string a0_3) := (blk_cell qb.out 3).trans rfl
              have hcz116_4 : wc.cell? ⟨qc, 4, none⟩ = some (.int .i64 a0_4) := (blk_cell qb.out 4).trans rfl
              have hcz116_5 : wc.cell? ⟨qc, 5, none⟩ = some (.string a0_5) := (blk_cell qb.out 5).trans rfl
              have hfz116_0 := blk_frozen qb.out 0
              have hfz116_1 := blk_frozen qb.out 1
              have hfz116_2 := blk_frozen qb.out 2
              have hfz116_3 := blk_frozen qb.out 3
              have hfz116_4 := blk_frozen qb.out 4
              have hfz116_5 := blk_frozen qb.out 5
              go_wp2_with (first | ((with_reducible refine gate_callee (f := 44) rfl ?_); refine goesL_ (some 99) rfl rfl Tryz.func44 (by kernel_rfl) rfl #[.int .i64 a0_0] rfl (by (try simp only [List.map_toArray, List.map_cons, List.map_nil]); (rfl)) ?_; (with_reducible refine (coppiceref19_bounds.calls kj40 a0_0 qh qi _ A67.out).mono ?_); rintro e w' ⟨rfl, ⟨nd, rfl⟩⟩; refine ⟨_, rfl, ?_⟩))
              go_ret
              exact ⟨by (rfl), by repeat (((with_reducible first | exact HB.out | apply pw_below_drewN )))⟩

end Go.Proofs.YtofdpgcnconibaaGreatDoor.PA
