-- WRITTEN BY a program of this session (pp.sh)
import Derived.Test.YtofdpgcnconibaaGreatDoorPAx0
import Derived.Test.YtofdpgcnconibaaGreatDoorPAx10
import Derived.Test.YtofdpgcnconibaaGreatDoorPAx11
import Derived.Test.YtofdpgcnconibaaGreatDoorPAx12
import Derived.Test.YtofdpgcnconibaaGreatDoorPAx22
import Derived.Test.YtofdpgcnconibaaGreatDoorPAx27
import Derived.Test.YtofdpgcnconibaaGreatDoorPAx31
import Derived.Test.YtofdpgcnconibaaGreatDoorPAx33
set_option linter.unusedVariables false
set_option linter.unusedSimpArgs false
namespace Go.Proofs.YtofdpgcnconibaaGreatDoor.PA
open Go.RowKit Go.Proofs.YtofdpgcnconibaaGreatDoorW.PrintWords Go.Proofs.YtofdpgcnconibaaGreatDoorW.PrintLast Go.Proofs.YtofdpgcnconibaaGreatDoorW.PrintMore Go.Proofs.YtofdpgcnconibaaGreatDoor.Plain
attribute [local go_sem] max2_int min2_int max_two min_two max_three min_three max_four min_four binOp_leq_s binOp_gtr_s binOp_geq_s lit_byte   -- for this text's walks alone
set_option linter.unusedVariables false
set_option linter.unusedSimpArgs false

/-! ### coppicelaw19_CmdTexts: function 7 -/
mutual
def coppicelaw19_CmdTexts.j0 : Nat → List (S23) → ByteArray → Bool → Option (Bool)
 | 0, _, _, _ => none
 | k + 1, x0, x1, x24 => if x24 = true then (some true) else ((some (([] : List (S23)) : List (S23))).bind fun y286 => (if y286.length + x0.length < 1759218604441 then ((cmd_Text.f k (y286 ++ x0)).bind fun bt292 => ((coppiceref19_Text.f k x0).bind fun bt297 => (if bt292.1.toList = bt297.1.toList then ((coppicelaw19_tells.f bt292.2.1 bt292.2.2.1 bt292.2.2.2 bt297.2.1 bt297.2.2).bind fun t300 => (coppicelaw19_CmdTexts.j1 k x0 x1 bt292.1 (!t300) bt292.2.1 bt292.2.2.1 bt292.2.2.2)) else (coppicelaw19_CmdTexts.j1 k x0 x1 bt292.1 true bt292.2.1 bt292.2.2.1 bt292.2.2.2)))) else (none)))
def coppicelaw19_CmdTexts.j1 : Nat → List (S23) → ByteArray → ByteArray → Bool → Int → Int → Int → Option (Bool)
 | 0, _, _, _, _, _, _, _ => none
 | k + 1, x0, x1, x5, x47, x297000, x297001, x297002 => if x47 = true then (some false) else (if x297000 = 0 then ((cmd_All.f k x5).bind fun bt301 => (if bt301.2.1 = 0 then ((coppiceref19_Same.f k bt301.1 x0).bind fun t308 => (if t308 = true then (coppicelaw19_CmdTexts.j2 k x1) else (some false))) else (some false))) else (coppicelaw19_CmdTexts.j2 k x1))
def coppicelaw19_CmdTexts.j2 : Nat → ByteArray → Option (Bool)
 | 0, _ => none
 | k + 1, x1 => (cmd_All.f k x1).bind fun bt309 => ((coppiceref19_All.f k x1).bind fun bt315 => ((coppiceref19_Same.f k bt309.1 bt315.1).bind fun t320 => (if t320 = true then ((coppicelaw19_tells.f bt309.2.1 bt309.2.2.1 bt309.2.2.2 bt315.2.1 bt315.2.2).bind fun t321 => (if t321 = true then ((cmd_Text.f k bt309.1).bind fun bt322 => (if bt309.2.1 = 0 then (if bt322.2.1 = 0 then (some (bt322.1.toList == x1.toList)) else (some false)) else (some true))) else (some false))) else (some false))))
end
def coppicelaw19_CmdTexts.f (k : Nat) (l0 : List (S23)) (a1 : ByteArray) : Option (Bool) := (coppicelaw19_awake.f k).bind fun t284 => (if t284 = true then ((coppiceref19_Great.f k l0).bind fun t285 => (if t285 = true then (coppicelaw19_CmdTexts.j0 k l0 a1 true) else (coppicelaw19_CmdTexts.j0 k l0 a1 (decide ((a1.size : Int) > 16384))))) else (some false))
set_option maxHeartbeats 8000000 in
set_option maxRecDepth 100000 in
theorem coppicelaw19_CmdTexts.calls (k : Nat) (A0 : Option Addr) (c0 : Nat) (l0 : List (S23)) (a1 : ByteArray) (r : Bool) (w : World) (hr0 : Kd.C k23 w A0 l0.length l0) (hc0 : l0.length ≤ c0) (hT : Tabs w) (h : coppicelaw19_CmdTexts.f k l0 a1 = some r) :
  Calls Tryz.prog 7 #[.slice A0 l0.length c0, .string a1] w fun e w' => e = .returned (.bool r) ∧ Below w.heap.size w w' := by
 have hu30 := Tryz.underlying30
 have HR0 := Aside0.mk hr0
 have HC0 := Aside0.mk hc0
 clear hr0 hc0
 have HB := Aside0.mk (Below.refl w.heap.size w)
 have H : ((coppicelaw19_awake.f k).bind fun t284 => (if t284 = true then ((coppiceref19_Great.f k l0).bind fun t285 => (if t285 = true then (coppicelaw19_CmdTexts.j0 k l0 a1 true) else (coppicelaw19_CmdTexts.j0 k l0 a1 (decide ((a1.size : Int) > 16384))))) else (some false))) = some r := h
 clear h
 replace H := Option.bind_eq_some_iff.mp H
 obtain ⟨t284, A30, H⟩ := H
 replace H : (if t284 = true then ((coppiceref19_Great.f k l0).bind fun t285 => (if t285 = true then (coppicelaw19_CmdTexts.j0 k l0 a1 true) else (coppicelaw19_CmdTexts.j0 k l0 a1 (decide ((a1.size : Int) > 16384))))) else (some false)) = some r := H
 have A3 := Aside0.mk A30
 clear A30
 by_cases c4 : t284 = true
 ·subst c4
  have H1 : ((coppiceref19_Great.f k l0).bind fun t285 => (if t285 = true then (coppicelaw19_CmdTexts.j0 k l0 a1 true) else (coppicelaw19_CmdTexts.j0 k l0 a1 (decide ((a1.size : Int) > 16384))))) = some r := by rw [if_pos rfl] at H; exact H
  clear H
  have H := H1
  clear H1
  have HC5 := Aside0.mk H
  clear H
  go_enter Tryz.func7, Tryz.ntmps7
  go_upto_region 3 with (first | ((with_reducible refine gate_callee (f := 8) rfl ?_); refine goesL_ (some 16) rfl rfl Tryz.func8 (by kernel_rfl) rfl #[] rfl (by (try simp only [List.map_toArray, List.map_cons, List.map_nil]); (done)) ?_; (with_reducible refine (coppicelaw19_awake.calls k  true _ ?side1 A3.out).mono ?_); (case side1 => exact Tabs.on hT (by repeat (((with_reducible (exact HB.out)))))); rintro e w6 ⟨rfl, hb⟩; refine ⟨_, rfl, ?_⟩; have n0_ := Aside0.mk (below_step (by repeat (((with_reducible (exact HB.out))))) hb); clear HB; have HB := n0_; clear n0_; (try clear hb); (try clear hb2); (try clear hk); (try clear hi)))
  (try simp only [Act.put, List.setIfInBounds_toArray, List.set_cons_zero, List.set_cons_succ])
  go_cut [24] (fun v24 wc => ∃ (kq : Nat) (x24_4 : Bool), v24 = .bool x24_4 ∧ Aside0 (coppicelaw19_CmdTexts.j0 kq l0 a1 x24_4 = some r) ∧ Aside0 (kq ≤ k) ∧ Aside0 (Below w.heap.size w wc))
  case first =>
   have H := HC5.out
   clear HC5
   replace H := Option.bind_eq_some_iff.mp H
   obtain ⟨t285, A70, H⟩ := H
   replace H : (if t285 = true then (coppicelaw19_CmdTexts.j0 k l0 a1 true) else (coppicelaw19_CmdTexts.j0 k l0 a1 (decide ((a1.size : Int) > 16384)))) = some r := H
   have A7 := Aside0.mk A70
   clear A70
   by_cases c8 : t285 = true
   ·subst c8
    have H1 : (coppicelaw19_CmdTexts.j0 k l0 a1 true) = some r := by rw [if_pos rfl] at H; exact H
    clear H
    have H := H1
    clear H1
    have H' := Aside0.mk H
    clear H
    go_wp2_with (first | ((with_reducible refine gate_callee (f := 9) rfl ?_); refine goesL_ (some 19) rfl rfl Tryz.func9 (by kernel_rfl) rfl #[.slice A0 l0.length c0] rfl (by (try simp only [List.map_toArray, List.map_cons, List.map_nil]); (rfl)) ?_; (with_reducible refine (coppiceref19_Great.calls k _ _ l0 true _ ?side1 ?side2 A7.out).mono ?_); (case side1 => repeat ((exact (Kd.C_below HR0.out HB.out)))); (case side2 => exact HC0.out); rintro e w' ⟨rfl, ⟨nd, rfl⟩⟩; refine ⟨_, rfl, ?_⟩))
    go_meet
    case rel => exact ⟨_, (true), (by (rfl)), H', ⟨by (omega)⟩, ⟨by repeat (((with_reducible first | exact HB.out | apply pw_below_drewN )))⟩⟩
   ·replace c8 := Bool.eq_false_iff.mpr c8
    subst c8
    have H1 : (coppicelaw19_CmdTexts.j0 k l0 a1 (decide ((a1.size : Int) > 16384))) = some r := by rw [if_neg (show ¬ (false = true) by decide)] at H; exact H
    clear H
    have H := H1
    clear H1
    have H' := Aside0.mk H
    clear H
    go_wp2_with (first | ((with_reducible refine gate_callee (f := 9) rfl ?_); refine goesL_ (some 19) rfl rfl Tryz.func9 (by kernel_rfl) rfl #[.slice A0 l0.length c0] rfl (by (try simp only [List.map_toArray, List.map_cons, List.map_nil]); (rfl)) ?_; (with_reducible refine (coppiceref19_Great.calls k _ _ l0 false _ ?side1 ?side2 A7.out).mono ?_); (case side1 => repeat ((exact (Kd.C_below HR0.out HB.out)))); (case side2 => exact HC0.out); rintro e w' ⟨rfl, ⟨nd, rfl⟩⟩; refine ⟨_, rfl, ?_⟩))
    go_meet
    case rel => exact ⟨_, (decide ((a1.size : Int) > 16384)), (by (rfl)), H', ⟨by (omega)⟩, ⟨by repeat (((with_reducible first | exact HB.out | apply pw_below_drewN )))⟩⟩
  case rest =>
   clear HC5
   try clear p2
   try clear c4
   try clear c7
   try clear c8
   obtain ⟨kq, x24_4, rfl, HA, HJ4, HB⟩ := hcut
   cases kq with
   | zero => exact absurd HA.out (by simp [coppicelaw19_CmdTexts.j0])
   | succ kj4 =>
    have H := HA.out
    clear HA
    simp only [coppicelaw19_CmdTexts.j0] at H
    by_cases c9 : x24_4 = true
    ·subst c9
     have H1 : (some true) = some r := by rw [if_pos rfl] at H; exact H
     clear H
     have H := H1
     clear H1
     obtain rfl := Option.some.inj H
     go_wp2
     go_ret
     exact ⟨by (rfl), by repeat (((with_reducible (exact HB.out))))⟩
    ·replace c9 := Bool.eq_false_iff.mpr c9
     subst c9
     have H1 : ((some (([] : List (S23)) : List (S23))).bind fun y286 => (if y286.length + l0.length < 1759218604441 then ((cmd_Text.f kj4 (y286 ++ l0)).bind fun bt292 => ((coppiceref19_Text.f kj4 l0).bind fun bt297 => (if bt292.1.toList = bt297.1.toList then ((coppicelaw19_tells.f bt292.2.1 bt292.2.2.1 bt292.2.2.2 bt297.2.1 bt297.2.2).bind fun t300 => (coppicelaw19_CmdTexts.j1 kj4 l0 a1 bt292.1 (!t300) bt292.2.1 bt292.2.2.1 bt292.2.2.2)) else (coppicelaw19_CmdTexts.j1 kj4 l0 a1 bt292.1 true bt292.2.1 bt292.2.2.1 bt292.2.2.2)))) else (none))) = some r := by rw [if_neg (show ¬ (false = true) by decide)] at H; exact H
     clear H
     have H := H1
     clear H1
     obtain ⟨y286, hy286⟩ : ∃ y_ : List (S23), y_ = (([] : List (S23))) := ⟨_, rfl⟩
     replace H : (if y286.length + l0.length < 1759218604441 then ((cmd_Text.f kj4 (y286 ++ l0)).bind fun bt292 => ((coppiceref19_Text.f kj4 l0).bind fun bt297 => (if bt292.1.toList = bt297.1.toList then ((coppicelaw19_tells.f bt292.2.1 bt292.2.2.1 bt292.2.2.2 bt297.2.1 bt297.2.2).bind fun t300 => (coppicelaw19_CmdTexts.j1 kj4 l0 a1 bt292.1 (!t300) bt292.2.1 bt292.2.2.1 bt292.2.2.2)) else (coppicelaw19_CmdTexts.j1 kj4 l0 a1 bt292.1 true bt292.2.1 bt292.2.2.1 bt292.2.2.2)))) else (none)) = some r := by ((have H2_ := (Option.bind_some _ _).symm.trans H; rw [hy286]; with_reducible exact H2_))
     have Ny286 := Aside0.mk hy286
     clear hy286
     by_cases c10 : y286.length + l0.length < 1759218604441
     ·rw [if_pos c10] at H
      have LMc10 := Aside0.mk c10
      clear c10
      obtain ⟨y289, hy289⟩ : ∃ y_ : List (S23), y_ = (y286 ++ l0) := ⟨_, rfl⟩
      replace H : ((cmd_Text.f kj4 y289).bind fun bt292 => ((coppiceref19_Text.f kj4 l0).bind fun bt297 => (if bt292.1.toList = bt297.1.toList then ((coppicelaw19_tells.f bt292.2.1 bt292.2.2.1 bt292.2.2.2 bt297.2.1 bt297.2.2).bind fun t300 => (coppicelaw19_CmdTexts.j1 kj4 l0 a1 bt292.1 (!t300) bt292.2.1 bt292.2.2.1 bt292.2.2.2)) else (coppicelaw19_CmdTexts.j1 kj4 l0 a1 bt292.1 true bt292.2.1 bt292.2.2.1 bt292.2.2.2)))) = some r := by ((rw [hy289]; with_reducible exact H))
      have Ny289 := Aside0.mk hy289
      clear hy289
      replace H := Option.bind_eq_some_iff.mp H
      obtain ⟨⟨t292, t293, t294, t295⟩, A110, H⟩ := H
      replace H : ((coppiceref19_Text.f kj4 l0).bind fun bt297 => (if t292.toList = bt297.1.toList then ((coppicelaw19_tells.f t293 t294 t295 bt297.2.1 bt297.2.2).bind fun t300 => (coppicelaw19_CmdTexts.j1 kj4 l0 a1 t292 (!t300) t293 t294 t295)) else (coppicelaw19_CmdTexts.j1 kj4 l0 a1 t292 true t293 t294 t295))) = some r := H
      have A11 := Aside0.mk A110
      clear A110
      replace H := Option.bind_eq_some_iff.mp H
      obtain ⟨⟨t297, t298, t299⟩, A120, H⟩ := H
      replace H : (if t292.toList = t297.toList then ((coppicelaw19_tells.f t293 t294 t295 t298 t299).bind fun t300 => (coppicelaw19_CmdTexts.j1 kj4 l0 a1 t292 (!t300) t293 t294 t295)) else (coppicelaw19_CmdTexts.j1 kj4 l0 a1 t292 true t293 t294 t295)) = some r := H
      have A12 := Aside0.mk A120
      clear A120
      have HC13 := Aside0.mk H
      clear H
      go_upto_region 7 with (first | ((with_reducible refine gate_dst (N := 26) rfl ?_); (try (refine gate_guard (by rfl) ?_; dsimp only)); refine Kd.R_lit k23 _ 23 ?hg (N := 26) ?hd (xs := ([] : List (S23))) (inner := []) (ok := fun _ => True) (okp := fun _ => True) ?hr ?hp (fun _ hk => hk) trivial (Below.refl _ _) (Nat.le_refl _) (by simp) ?_; (case hd => rfl); (case hg => rfl); (case hr => ((go_simp; done))); (case hp => exact (Reps.none _ _)); intro v287 w14 ho15 hb hg_ hnew_; clear hg_ hnew_; ((rw [← Ny286.out] at ho15)); have n0_ := Aside0.mk (Kd.R_lower ho15 (below_size (by repeat (((with_reducible (exact HB.out))))))); have n1_ := Aside0.mk (below_step (by repeat (((with_reducible (exact HB.out))))) hb); clear HB; have HO288 := n0_; have HB := n1_; clear n0_ n1_; clear hb ho15) | ((with_reducible refine gate_builtin (b := .append) (xs := #[.tmp 26, .tmp 27]) rfl ?_); (try (refine gate_guard (by rfl) ?_; dsimp only)); at_builtin; refine Kd.R_append_rows k23 (w0 := w) w.heap.size rfl (.tmp 26) (.tmp 27) 26 23 (.agg #[(.int .i64 0), (.string ⟨#[]⟩), (.string ⟨#[]⟩), (.string ⟨#[]⟩), (.int .i64 0), (.string ⟨#[]⟩)]) 80 rfl Tryz.underlying26 info23 rfl (by decide) (by omega) v287 y286 l0 _ _ _ (fun _ => True) (fun _ => False) rfl rfl ?aO ?aR (fun _ _ h => h) (fun _ h => h.elim) ?aF ?aB ?aS ?aL ?_; (case aR => repeat ((exact (Kd.C_below HR0.out HB.out)))); (case aB => exact (by repeat (((with_reducible (exact HB.out)))))); (case aF => exact (fun _ _ => trivial)); (case aO => exact (by (with_reducible repeat (fail)); exact HO288.out)); (case aS => exact (below_size (by repeat (((with_reducible (exact HB.out))))))); (case aL => have := LMc10.out; omega); intro v290 w16 ho hb hg hat; rw [← Ny289.out] at ho; have n0_ := Aside0.mk (hb); have n1_ := Aside0.mk (ho); clear HB; clear HO288; have HB := n0_; have HO291 := n1_; clear n0_ n1_; clear ho hb hg hat; obtain ⟨Ao17, co17, eo17⟩ := Kd.R_slice HO291.out; subst eo17) | ((with_reducible refine gate_callee (f := 16) rfl ?_); refine goesL_ (some 29) rfl rfl Tryz.func16 (by kernel_rfl) rfl #[.slice Ao17 y289.length co17] rfl (by (try simp only [List.map_toArray, List.map_cons, List.map_nil]); (rfl)) ?_; (with_reducible refine (cmd_Text.calls kj4 _ _ y289 t292 t293 t294 t295 _ ?side1 ?side2 ?side3 A11.out).mono ?_); (case side1 => repeat ((exact (Kd.R_reads' HO291.out).2.2))); (case side2 => exact (Kd.R_reads' HO291.out).2.1); (case side3 => exact Tabs.on hT (by repeat (((with_reducible (exact HB.out)))))); rintro e w18 ⟨rfl, hb⟩; refine ⟨_, rfl, ?_⟩; have n0_ := Aside0.mk (Kd.R_below (by (with_reducible repeat (fail)); exact HO291.out) hb); have n1_ := Aside0.mk (below_step (by repeat (((with_reducible (exact HB.out))))) hb); clear HO291; clear HB; have HO291 := n0_; have HB := n1_; clear n0_ n1_; (try clear hb); (try clear hb2); (try clear hk); (try clear hi)) | ((with_reducible refine gate_dst (N := 6) rfl ?_); (try (refine gate_guard (by rfl) ?_; dsimp only)); refine box_event ?hg (N := 6) ?hd (cs := #[.int .i64 0, .int .i64 0, .int .i64 0]) (t := 30) ?hr ?_; (case hd => rfl); (case hg => rfl); (case hr => ((go_simp; done))); intro gb296 hg w19 hbox hb; have n0_ := Aside0.mk (Kd.R_below (by (with_reducible repeat (fail)); exact HO291.out) hb); have n1_ := Aside0.mk (below_step (by repeat (((with_reducible (exact HB.out))))) hb); have n2_ := Aside0.mk (hbox); have n3_ := Aside0.mk ((by rw [hg]; exact (below_size (by repeat (((with_reducible (exact HB.out)))))) : w.heap.size ≤ gb296)); have n4_ := Aside0.mk ((by rw [hg]; exact (below_size (by repeat (((with_reducible (exact HB.out)))))) : w.heap.size ≤ gb296)); clear HO291; clear HB; have HO291 := n0_; have HB := n1_; have BK296 := n2_; have GW296 := n3_; have GE296 := n4_; clear n0_ n1_ n2_ n3_ n4_; clear hb hbox hg; have hcz20_0 : w19.cell? ⟨gb296, 0, none⟩ = some (.int .i64 0) := (blk_cell BK296.out 0).trans rfl; have hcz20_1 : w19.cell? ⟨gb296, 1, none⟩ = some (.int .i64 0) := (blk_cell BK296.out 1).trans rfl; have hcz20_2 : w19.cell? ⟨gb296, 2, none⟩ = some (.int .i64 0) := (blk_cell BK296.out 2).trans rfl; have hfz20_0 := blk_frozen BK296.out 0; have hfz20_1 := blk_frozen BK296.out 1; have hfz20_2 := blk_frozen BK296.out 2) | ((with_reducible refine gate_callee (f := 17) rfl ?_); refine goesL_ (some 34) rfl rfl Tryz.func17 (by kernel_rfl) rfl #[.slice A0 l0.length c0] rfl (by (try simp only [List.map_toArray, List.map_cons, List.map_nil]); (rfl)) ?_; (with_reducible refine (coppiceref19_Text.calls kj4 _ _ l0 t297 t298 t299 _ ?side1 ?side2 A12.out).mono ?_); (case side1 => exact Kd.C_below HR0.out (by repeat (((with_reducible first | exact HB.out | refine below_set ?_ GE296.out))))); (case side2 => exact HC0.out); rintro e w21 ⟨rfl, hb⟩; refine ⟨_, rfl, ?_⟩; have n0_ := Aside0.mk (Kd.R_below (by (with_reducible repeat (fail)); exact (Kd.R_mono (Kd.R_far (p := ⟨gb296, 2, none⟩) (Kd.R_far (p := ⟨gb296, 1, none⟩) (Kd.R_far (p := ⟨gb296, 0, none⟩) (Kd.R_types HO291.out BK296.out (by decide)) (fun _ hk => hk.2) (.int .i64 t293)) (fun _ hk => hk.2) (.int .i64 t294)) (fun _ hk => hk.2) (.int .i64 t295)) (fun _ h_ => h_.1))) hb); have n1_ := Aside0.mk (blk_below (g := gb296) (o := .cells #[.int .i64 t293, .int .i64 t294, .int .i64 t295] 30 (0, 0)) (by (with_reducible repeat (fail)); refine blk_put (cs := #[.int .i64 t293, .int .i64 t294, .int .i64 0]) ?_ 2 _ rfl; (with_reducible repeat (fail)); refine blk_put (cs := #[.int .i64 t293, .int .i64 0, .int .i64 0]) ?_ 1 _ rfl; (with_reducible repeat (fail)); refine blk_put (cs := #[.int .i64 0, .int .i64 0, .int .i64 0]) ?_ 0 _ rfl; (with_reducible repeat (fail)); exact BK296.out) hb); have n2_ := Aside0.mk (below_step (by repeat (((with_reducible first | exact HB.out | refine below_set ?_ GE296.out)))) hb); clear HO291; clear BK296; clear HB; have HO291 := n0_; have BK296 := n1_; have HB := n2_; clear n0_ n1_ n2_; (try clear hb); (try clear hb2); (try clear hk); (try clear hi)))
      (try simp only [Act.put, List.setIfInBounds_toArray, List.set_cons_zero, List.set_cons_succ])
      go_cut [47] (fun v47 wc => ∃ (kq : Nat) (x47_12 : Bool), v47 = .bool x47_12 ∧ Aside0 (coppicelaw19_CmdTexts.j1 kq l0 a1 t292 x47_12 t293 t294 t295 = some r) ∧ Aside0 (kq ≤ kj4) ∧ Aside0 (wc.heap[gb296]? = some (.cells #[.int .i64 t293, .int .i64 t294, .int .i64 t295] 30 (0, 0))) ∧ Aside0 (Below w.heap.size w wc))
      case first =>
       have H := HC13.out
       clear HC13
       by_cases c22 : t292.toList = t297.toList
       ·rw [if_pos c22] at H
        have c22b0 : (t292.toList == t297.toList) = true := beq_iff_eq.mpr c22
        have c22b1 : (t292.toList != t297.toList) = false := bne_eq_false_iff_eq.mpr c22
        clear c22
        ((skip))
        replace H := Option.bind_eq_some_iff.mp H
        obtain ⟨t300, A230, H⟩ := H
        replace H : (coppicelaw19_CmdTexts.j1 kj4 l0 a1 t292 (!t300) t293 t294 t295) = some r := H
        have A23 := Aside0.mk A230
        clear A230
        have H' := Aside0.mk H
        clear H
        have hcz24_0 : w21.cell? ⟨gb296, 0, none⟩ = some (.int .i64 t293) := (blk_cell BK296.out 0).trans rfl
        have hcz24_1 : w21.cell? ⟨gb296, 1, none⟩ = some (.int .i64 t294) := (blk_cell BK296.out 1).trans rfl
        have hcz24_2 : w21.cell? ⟨gb296, 2, none⟩ = some (.int .i64 t295) := (blk_cell BK296.out 2).trans rfl
        have hfz24_0 := blk_frozen BK296.out 0
        have hfz24_1 := blk_frozen BK296.out 1
        have hfz24_2 := blk_frozen BK296.out 2
        go_wp2_with (first | (go_at_call 12; (with_reducible refine (coppicelaw19_tells.calls t293 t294 t295 t298 t299 t300 _ A23.out).mono ?_); rintro e w25 ⟨rfl, hb⟩; have n0_ := Aside0.mk (Kd.R_below (by (with_reducible repeat (fail)); exact HO291.out) hb); have n1_ := Aside0.mk (blk_below (g := gb296) (o := .cells #[.int .i64 t293, .int .i64 t294, .int .i64 t295] 30 (0, 0)) (by (with_reducible repeat (fail)); exact BK296.out) hb); have n2_ := Aside0.mk (below_step (by repeat (((with_reducible (exact HB.out))))) hb); clear HO291; clear BK296; clear HB; have HO291 := n0_; have BK296 := n1_; have HB := n2_; clear n0_ n1_ n2_; (try clear hb); (try clear hb2); (try clear hk); (try clear hi)))
        go_meet
        case rel => exact ⟨_, (!t300), (by (rfl)), H', ⟨by have := HJ4.out; (omega)⟩, ⟨by (with_reducible repeat (fail)); exact BK296.out⟩, ⟨by repeat (((with_reducible (exact HB.out))))⟩⟩
       ·rw [if_neg c22] at H
        have c22b0 : (t292.toList == t297.toList) = false := beq_eq_false_iff_ne.mpr c22
        have c22b1 : (t292.toList != t297.toList) = true := bne_iff_ne.mpr c22
        ((skip))
        have H' := Aside0.mk H
        clear H
        go_wp2
        go_meet
        case rel => exact ⟨_, (true), (by (rfl)), H', ⟨by have := HJ4.out; (omega)⟩, ⟨by (with_reducible repeat (fail)); exact BK296.out⟩, ⟨by repeat (((with_reducible (exact HB.out))))⟩⟩
      case rest =>
       clear HC13
       try clear c1
       try clear c2
       try clear p2
       try clear c4
       try clear c7
       try clear c8
       try clear c9
       try clear c10
       try clear c16
       try clear c17
       try clear c22
       try clear c22b0
       try clear c22b1
       try clear hcz20_0
       try clear hcz20_1
       try clear hcz20_2
       try clear hcz24_0
       try clear hcz24_1
       try clear hcz24_2
       try clear hfz20_0
       try clear hfz20_1
       try clear hfz20_2
       try clear hfz24_0
       try clear hfz24_1
       try clear hfz24_2
       try clear p2
       obtain ⟨kq, x47_12, rfl, HA, HJ12, BK296, HB⟩ := hcut
       cases kq with
       | zero => exact absurd HA.out (by simp [coppicelaw19_CmdTexts.j1])
       | succ kj12 =>
        have H := HA.out
        clear HA
        simp only [coppicelaw19_CmdTexts.j1] at H
        by_cases c26 : x47_12 = true
        ·subst c26
         have H1 : (some false) = some r := by rw [if_pos rfl] at H; exact H
         clear H
         have H := H1
         clear H1
         obtain rfl := Option.some.inj H
         go_wp2
         go_ret
         exact ⟨by (rfl), by repeat (((with_reducible (exact HB.out))))⟩
        ·replace c26 := Bool.eq_false_iff.mpr c26
         subst c26
         have H1 : (if t293 = 0 then ((cmd_All.f kj12 t292).bind fun bt301 => (if bt301.2.1 = 0 then ((coppiceref19_Same.f kj12 bt301.1 l0).bind fun t308 => (if t308 = true then (coppicelaw19_CmdTexts.j2 kj12 a1) else (some false))) else (some false))) else (coppicelaw19_CmdTexts.j2 kj12 a1)) = some r := by rw [if_neg (show ¬ (false = true) by decide)] at H; exact H
         clear H
         have H := H1
         clear H1
         have HC27 := Aside0.mk H
         clear H
         have hcz28_0 : wc.cell? ⟨gb296, 0, none⟩ = some (.int .i64 t293) := (blk_cell BK296.out 0).trans rfl
         have hcz28_1 : wc.cell? ⟨gb296, 1, none⟩ = some (.int .i64 t294) := (blk_cell BK296.out 1).trans rfl
         have hcz28_2 : wc.cell? ⟨gb296, 2, none⟩ = some (.int .i64 t295) := (blk_cell BK296.out 2).trans rfl
         have hfz28_0 := blk_frozen BK296.out 0
         have hfz28_1 := blk_frozen BK296.out 1
         have hfz28_2 := blk_frozen BK296.out 2
         go_upto_if 50 with (fail)
         go_cut [] (fun wc => ∃ (kq : Nat), Aside0 (coppicelaw19_CmdTexts.j2 kq a1 = some r) ∧ Aside0 (kq ≤ kj12) ∧ Aside0 (wc.heap[gb296]? = some (.cells #[.int .i64 t293, .int .i64 t294, .int .i64 t295] 30 (0, 0))) ∧ Aside0 (Below w.heap.size w wc))
         case first =>
          have H := HC27.out
          clear HC27
          by_cases c29 : t293 = 0
          ·rw [if_pos c29] at H
           have c29b0 : (t293 == 0) = true := beq_iff_eq.mpr c29
           have c29b1 : (t293 != 0) = false := bne_eq_false_iff_eq.mpr c29
           clear c29
           ((rw [c29b0]))
           replace H := Option.bind_eq_some_iff.mp H
           obtain ⟨⟨t301, t304, t305, t306⟩, A300, H⟩ := H
           replace H : (if t304 = 0 then ((coppiceref19_Same.f kj12 t301 l0).bind fun t308 => (if t308 = true then (coppicelaw19_CmdTexts.j2 kj12 a1) else (some false))) else (some false)) = some r := H
           have A30 := Aside0.mk A300
           clear A300
           by_cases c31 : t304 = 0
           ·rw [if_pos c31] at H
            have c31b0 : (t304 == 0) = true := beq_iff_eq.mpr c31
            have c31b1 : (t304 != 0) = false := bne_eq_false_iff_eq.mpr c31
            clear c31
            replace H := Option.bind_eq_some_iff.mp H
            obtain ⟨t308, A320, H⟩ := H
            replace H : (if t308 = true then (coppicelaw19_CmdTexts.j2 kj12 a1) else (some false)) = some r := H
            have A32 := Aside0.mk A320
            clear A320
            by_cases c33 : t308 = true
            ·subst c33
             have H1 : (coppicelaw19_CmdTexts.j2 kj12 a1) = some r := by rw [if_pos rfl] at H; exact H
             clear H
             have H := H1
             clear H1
             have H' := Aside0.mk H
             clear H
             go_wp2_with (first | ((with_reducible refine gate_callee (f := 18) rfl ?_); refine goesL_ (some 53) rfl rfl Tryz.func18 (by kernel_rfl) rfl #[.string t292] rfl (by (try simp only [List.map_toArray, List.map_cons, List.map_nil]); (rfl)) ?_; (with_reducible refine (cmd_All.calls kj12 t292 t301 t304 t305 t306 _ ?side1 A30.out).mono ?_); (case side1 => exact Tabs.on hT (by repeat (((with_reducible (exact HB.out)))))); rintro e w34 ⟨v302, rfl, ho0, hb⟩; refine ⟨_, rfl, ?_⟩; have n0_ := Aside0.mk (Kd.R_lower ho0 (below_size (by repeat (((with_reducible (exact HB.out))))))); have n1_ := Aside0.mk (blk_below (g := gb296) (o := .cells #[.int .i64 t293, .int .i64 t294, .int .i64 t295] 30 (0, 0)) (by (with_reducible repeat (fail)); exact BK296.out) hb); have n2_ := Aside0.mk (below_step (by repeat (((with_reducible (exact HB.out))))) hb); clear BK296; clear HB; have HO303 := n0_; have BK296 := n1_; have HB := n2_; clear n0_ n1_ n2_; (try clear hb); (try clear hb2); (try clear hk); (try clear hi); (try clear ho0)) | ((with_reducible refine gate_dst (N := 11) rfl ?_); (try (refine gate_guard (by rfl) ?_; dsimp only)); refine box_event ?hg (N := 11) ?hd (cs := #[.int .i64 0, .int .i64 0, .int .i64 0]) (t := 30) ?hr ?_; (case hd => rfl); (case hg => rfl); (case hr => ((go_simp; done))); intro gb307 hg w35 hbox hb; have n0_ := Aside0.mk (Kd.R_below (by (with_reducible repeat (fail)); exact HO303.out) hb); have n1_ := Aside0.mk (blk_below (g := gb296) (o := .cells #[.int .i64 t293, .int .i64 t294, .int .i64 t295] 30 (0, 0)) (by (with_reducible repeat (fail)); exact BK296.out) hb); have n2_ := Aside0.mk (below_step (by repeat (((with_reducible (exact HB.out))))) hb); have n3_ := Aside0.mk (hbox); have n4_ := Aside0.mk ((by rw [hg]; exact (below_size (by repeat (((with_reducible (exact HB.out)))))) : w.heap.size ≤ gb307)); have n5_ := Aside0.mk ((by rw [hg]; exact (below_size (by repeat (((with_reducible (exact HB.out)))))) : w.heap.size ≤ gb307)); have n6_ := Aside0.mk ((by rw [hg]; exact Nat.ne_of_lt (blk_lt (g := gb296) (o := .cells #[.int .i64 t293, .int .i64 t294, .int .i64 t295] 30 (0, 0)) (by (with_reducible repeat (fail)); exact BK296.out)) : gb296 ≠ gb307)); have n7_ := Aside0.mk ((by rw [hg]; exact Nat.ne_of_gt (blk_lt (g := gb296) (o := .cells #[.int .i64 t293, .int .i64 t294, .int .i64 t295] 30 (0, 0)) (by (with_reducible repeat (fail)); exact BK296.out)) : gb307 ≠ gb296)); clear HO303; clear BK296; clear HB; have HO303 := n0_; have BK296 := n1_; have HB := n2_; have BK307 := n3_; have GW307 := n4_; have GE307 := n5_; have NB296_307 := n6_; have NB307_296 := n7_; clear n0_ n1_ n2_ n3_ n4_ n5_ n6_ n7_; clear hb hbox hg; have hnb36 := NB307_296.out; have hnc36 := NB296_307.out; have hcz37_0 : w35.cell? ⟨gb307, 0, none⟩ = some (.int .i64 0) := (blk_cell BK307.out 0).trans rfl; have hcz37_1 : w35.cell? ⟨gb307, 1, none⟩ = some (.int .i64 0) := (blk_cell BK307.out 1).trans rfl; have hcz37_2 : w35.cell? ⟨gb307, 2, none⟩ = some (.int .i64 0) := (blk_cell BK307.out 2).trans rfl; have hfz37_0 := blk_frozen BK307.out 0; have hfz37_1 := blk_frozen BK307.out 1; have hfz37_2 := blk_frozen BK307.out 2; obtain ⟨Ao38, co38, eo38⟩ := Kd.R_slice HO303.out; subst eo38) | (go_at_call 19; (with_reducible refine (coppiceref19_Same.calls kj12 _ _ t301 _ _ l0 true _ ?side1 ?side2 ?side3 ?side4 A32.out).mono ?_); (case side1 => refine (Kd.R_reads' (e := 23) (base := w.heap.size) (ok := fun k_ => True) (n := t301.length) (c := co38) ?_).2.2; exact (by (with_reducible repeat (fail)); exact (Kd.R_mono (Kd.R_far (p := ⟨gb307, 2, none⟩) (Kd.R_far (p := ⟨gb307, 1, none⟩) (Kd.R_far (p := ⟨gb307, 0, none⟩) (Kd.R_types HO303.out BK307.out (by decide)) (fun _ hk => hk.2) (.int .i64 t304)) (fun _ hk => hk.2) (.int .i64 t305)) (fun _ hk => hk.2) (.int .i64 t306)) (fun _ h_ => h_.1)))); (case side2 => exact (Kd.R_reads' HO303.out).2.1); (case side3 => exact Kd.C_below HR0.out (by repeat (((with_reducible first | exact HB.out | refine below_set ?_ GE307.out))))); (case side4 => exact HC0.out); rintro e w' ⟨rfl, ⟨nd, rfl⟩⟩))
             go_meet
             case rel => exact ⟨_, H', ⟨by have := HJ4.out; have := HJ12.out; (omega)⟩, ⟨by (with_reducible repeat ((refine blk_drewN ?_ _))); refine blk_far ?_ NB296_307.out _; (with_reducible repeat (fail)); refine blk_far ?_ NB296_307.out _; (with_reducible repeat (fail)); refine blk_far ?_ NB296_307.out _; (with_reducible repeat (fail)); exact BK296.out⟩, ⟨by repeat (((with_reducible first | exact HB.out | apply pw_below_drewN | refine below_set ?_ GE307.out)))⟩⟩
            ·replace c33 := Bool.eq_false_iff.mpr c33
             subst c33
             have H1 : (some false) = some r := by rw [if_neg (show ¬ (false = true) by decide)] at H; exact H
             clear H
             have H := H1
             clear H1
             obtain rfl := Option.some.inj H
             go_wp2_with (first | ((with_reducible refine gate_callee (f := 18) rfl ?_); refine goesL_ (some 53) rfl rfl Tryz.func18 (by kernel_rfl) rfl #[.string t292] rfl (by (try simp only [List.map_toArray, List.map_cons, List.map_nil]); (rfl)) ?_; (with_reducible refine (cmd_All.calls kj12 t292 t301 t304 t305 t306 _ ?side1 A30.out).mono ?_); (case side1 => exact Tabs.on hT (by repeat (((with_reducible (exact HB.out)))))); rintro e w39 ⟨v302, rfl, ho0, hb⟩; refine ⟨_, rfl, ?_⟩; have n0_ := Aside0.mk (Kd.R_lower ho0 (below_size (by repeat (((with_reducible (exact HB.out))))))); have n1_ := Aside0.mk (blk_below (g := gb296) (o := .cells #[.int .i64 t293, .int .i64 t294, .int .i64 t295] 30 (0, 0)) (by (with_reducible repeat (fail)); exact BK296.out) hb); have n2_ := Aside0.mk (below_step (by repeat (((with_reducible (exact HB.out))))) hb); clear BK296; clear HB; have HO303 := n0_; have BK296 := n1_; have HB := n2_; clear n0_ n1_ n2_; (try clear hb); (try clear hb2); (try clear hk); (try clear hi); (try clear ho0)) | ((with_reducible refine gate_dst (N := 11) rfl ?_); (try (refine gate_guard (by rfl) ?_; dsimp only)); refine box_event ?hg (N := 11) ?hd (cs := #[.int .i64 0, .int .i64 0, .int .i64 0]) (t := 30) ?hr ?_; (case hd => rfl); (case hg => rfl); (case hr => ((go_simp; done))); intro gb307 hg w40 hbox hb; have n0_ := Aside0.mk (Kd.R_below (by (with_reducible repeat (fail)); exact HO303.out) hb); have n1_ := Aside0.mk (blk_below (g := gb296) (o := .cells #[.int .i64 t293, .int .i64 t294, .int .i64 t295] 30 (0, 0)) (by (with_reducible repeat (fail)); exact BK296.out) hb); have n2_ := Aside0.mk (below_step (by repeat (((with_reducible (exact HB.out))))) hb); have n3_ := Aside0.mk (hbox); have n4_ := Aside0.mk ((by rw [hg]; exact (below_size (by repeat (((with_reducible (exact HB.out)))))) : w.heap.size ≤ gb307)); have n5_ := Aside0.mk ((by rw [hg]; exact (below_size (by repeat (((with_reducible (exact HB.out)))))) : w.heap.size ≤ gb307)); have n6_ := Aside0.mk ((by rw [hg]; exact Nat.ne_of_lt (blk_lt (g := gb296) (o := .cells #[.int .i64 t293, .int .i64 t294, .int .i64 t295] 30 (0, 0)) (by (with_reducible repeat (fail)); exact BK296.out)) : gb296 ≠ gb307)); have n7_ := Aside0.mk ((by rw [hg]; exact Nat.ne_of_gt (blk_lt (g := gb296) (o := .cells #[.int .i64 t293, .int .i64 t294, .int .i64 t295] 30 (0, 0)) (by (with_reducible repeat (fail)); exact BK296.out)) : gb307 ≠ gb296)); clear HO303; clear BK296; clear HB; have HO303 := n0_; have BK296 := n1_; have HB := n2_; have BK307 := n3_; have GW307 := n4_; have GE307 := n5_; have NB296_307 := n6_; have NB307_296 := n7_; clear n0_ n1_ n2_ n3_ n4_ n5_ n6_ n7_; clear hb hbox hg; have hnb41 := NB307_296.out; have hnc41 := NB296_307.out; have hcz42_0 : w40.cell? ⟨gb307, 0, none⟩ = some (.int .i64 0) := (blk_cell BK307.out 0).trans rfl; have hcz42_1 : w40.cell? ⟨gb307, 1, none⟩ = some (.int .i64 0) := (blk_cell BK307.out 1).trans rfl; have hcz42_2 : w40.cell? ⟨gb307, 2, none⟩ = some (.int .i64 0) := (blk_cell BK307.out 2).trans rfl; have hfz42_0 := blk_frozen BK307.out 0; have hfz42_1 := blk_frozen BK307.out 1; have hfz42_2 := blk_frozen BK307.out 2; obtain ⟨Ao43, co43, eo43⟩ := Kd.R_slice HO303.out; subst eo43) | (go_at_call 19; (with_reducible refine (coppiceref19_Same.calls kj12 _ _ t301 _ _ l0 false _ ?side1 ?side2 ?side3 ?side4 A32.out).mono ?_); (case side1 => refine (Kd.R_reads' (e := 23) (base := w.heap.size) (ok := fun k_ => True) (n := t301.length) (c := co43) ?_).2.2; exact (by (with_reducible repeat (fail)); exact (Kd.R_mono (Kd.R_far (p := ⟨gb307, 2, none⟩) (Kd.R_far (p := ⟨gb307, 1, none⟩) (Kd.R_far (p := ⟨gb307, 0, none⟩) (Kd.R_types HO303.out BK307.out (by decide)) (fun _ hk => hk.2) (.int .i64 t304)) (fun _ hk => hk.2) (.int .i64 t305)) (fun _ hk => hk.2) (.int .i64 t306)) (fun _ h_ => h_.1)))); (case side2 => exact (Kd.R_reads' HO303.out).2.1); (case side3 => exact Kd.C_below HR0.out (by repeat (((with_reducible first | exact HB.out | refine below_set ?_ GE307.out))))); (case side4 => exact HC0.out); rintro e w' ⟨rfl, ⟨nd, rfl⟩⟩))
             go_ret
             exact ⟨by (rfl), by repeat (((with_reducible first | exact HB.out | apply pw_below_drewN | refine below_set ?_ GE307.out)))⟩
           ·rw [if_neg c31] at H
            have c31b0 : (t304 == 0) = false := beq_eq_false_iff_ne.mpr c31
            have c31b1 : (t304 != 0) = true := bne_iff_ne.mpr c31
            obtain rfl := Option.some.inj H
            go_wp2_with (first | ((with_reducible refine gate_callee (f := 18) rfl ?_); refine goesL_ (some 53) rfl rfl Tryz.func18 (by kernel_rfl) rfl #[.string t292] rfl (by (try simp only [List.map_toArray, List.map_cons, List.map_nil]); (rfl)) ?_; (with_reducible refine (cmd_All.calls kj12 t292 t301 t304 t305 t306 _ ?side1 A30.out).mono ?_); (case side1 => exact Tabs.on hT (by repeat (((with_reducible (exact HB.out)))))); rintro e w44 ⟨v302, rfl, ho0, hb⟩; refine ⟨_, rfl, ?_⟩; have n0_ := Aside0.mk (Kd.R_lower ho0 (below_size (by repeat (((with_reducible (exact HB.out))))))); have n1_ := Aside0.mk (blk_below (g := gb296) (o := .cells #[.int .i64 t293, .int .i64 t294, .int .i64 t295] 30 (0, 0)) (by (with_reducible repeat (fail)); exact BK296.out) hb); have n2_ := Aside0.mk (below_step (by repeat (((with_reducible (exact HB.out))))) hb); clear BK296; clear HB; have HO303 := n0_; have BK296 := n1_; have HB := n2_; clear n0_ n1_ n2_; (try clear hb); (try clear hb2); (try clear hk); (try clear hi); (try clear ho0)) | ((with_reducible refine gate_dst (N := 11) rfl ?_); (try (refine gate_guard (by rfl) ?_; dsimp only)); refine box_event ?hg (N := 11) ?hd (cs := #[.int .i64 0, .int .i64 0, .int .i64 0]) (t := 30) ?hr ?_; (case hd => rfl); (case hg => rfl); (case hr => ((go_simp; done))); intro gb307 hg w45 hbox hb; have n0_ := Aside0.mk (Kd.R_below (by (with_reducible repeat (fail)); exact HO303.out) hb); have n1_ := Aside0.mk (blk_below (g := gb296) (o := .cells #[.int .i64 t293, .int .i64 t294, .int .i64 t295] 30 (0, 0)) (by (with_reducible repeat (fail)); exact BK296.out) hb); have n2_ := Aside0.mk (below_step (by repeat (((with_reducible (exact HB.out))))) hb); have n3_ := Aside0.mk (hbox); have n4_ := Aside0.mk ((by rw [hg]; exact (below_size (by repeat (((with_reducible (exact HB.out)))))) : w.heap.size ≤ gb307)); have n5_ := Aside0.mk ((by rw [hg]; exact (below_size (by repeat (((with_reducible (exact HB.out)))))) : w.heap.size ≤ gb307)); have n6_ := Aside0.mk ((by rw [hg]; exact Nat.ne_of_lt (blk_lt (g := gb296) (o := .cells #[.int .i64 t293, .int .i64 t294, .int .i64 t295] 30 (0, 0)) (by (with_reducible repeat (fail)); exact BK296.out)) : gb296 ≠ gb307)); have n7_ := Aside0.mk ((by rw [hg]; exact Nat.ne_of_gt (blk_lt (g := gb296) (o := .cells #[.int .i64 t293, .int .i64 t294, .int .i64 t295] 30 (0, 0)) (by (with_reducible repeat (fail)); exact BK296.out)) : gb307 ≠ gb296)); clear HO303; clear BK296; clear HB; have HO303 := n0_; have BK296 := n1_; have HB := n2_; have BK307 := n3_; have GW307 := n4_; have GE307 := n5_; have NB296_307 := n6_; have NB307_296 := n7_; clear n0_ n1_ n2_ n3_ n4_ n5_ n6_ n7_; clear hb hbox hg; have hnb46 := NB307_296.out; have hnc46 := NB296_307.out; have hcz47_0 : w45.cell? ⟨gb307, 0, none⟩ = some (.int .i64 0) := (blk_cell BK307.out 0).trans rfl; have hcz47_1 : w45.cell? ⟨gb307, 1, none⟩ = some (.int .i64 0) := (blk_cell BK307.out 1).trans rfl; have hcz47_2 : w45.cell? ⟨gb307, 2, none⟩ = some (.int .i64 0) := (blk_cell BK307.out 2).trans rfl; have hfz47_0 := blk_frozen BK307.out 0; have hfz47_1 := blk_frozen BK307.out 1; have hfz47_2 := blk_frozen BK307.out 2))
            go_ret
            exact ⟨by (rfl), by repeat (((with_reducible first | exact HB.out | refine below_set ?_ GE307.out)))⟩
          ·rw [if_neg c29] at H
           have c29b0 : (t293 == 0) = false := beq_eq_false_iff_ne.mpr c29
           have c29b1 : (t293 != 0) = true := bne_iff_ne.mpr c29
           ((rw [c29b0]))
           have H' := Aside0.mk H
           clear H
           go_wp2
           go_meet
           case rel => exact ⟨_, H', ⟨by have := HJ4.out; have := HJ12.out; (omega)⟩, ⟨by (with_reducible repeat (fail)); exact BK296.out⟩, ⟨by repeat (((with_reducible (exact HB.out))))⟩⟩
         case rest =>
          clear HC27
          try clear c1
          try clear c2
          try clear p2
          try clear c3
          try clear c4
          try clear c7
          try clear c8
          try clear c9
          try clear c10
          try clear c16
          try clear c17
          try clear c18
          try clear c22
          try clear c22b0
          try clear c22b1
          try clear c26
          try clear c29
          try clear c29b0
          try clear c29b1
          try clear c31
          try clear c31b0
          try clear c31b1
          try clear c33
          try clear c36
          try clear c41
          try clear c46
          try clear hcz20_0
          try clear hcz20_1
          try clear hcz20_2
          try clear hcz24_0
          try clear hcz24_1
          try clear hcz24_2
          try clear hcz28_0
          try clear hcz28_1
          try clear hcz28_2
          try clear hcz37_0
          try clear hcz37_1
          try clear hcz37_2
          try clear hcz42_0
          try clear hcz42_1
          try clear hcz42_2
          try clear hcz47_0
          try clear hcz47_1
          try clear hcz47_2
          try clear hfz20_0
          try clear hfz20_1
          try clear hfz20_2
          try clear hfz24_0
          try clear hfz24_1
          try clear hfz24_2
          try clear hfz28_0
          try clear hfz28_1
          try clear hfz28_2
          try clear hfz37_0
          try clear hfz37_1
          try clear hfz37_2
          try clear hfz42_0
          try clear hfz42_1
          try clear hfz42_2
          try clear hfz47_0
          try clear hfz47_1
          try clear hfz47_2
          try clear p2
          obtain ⟨kq, HA, HJ26, BK296, HB⟩ := hcut
          cases kq with
          | zero => exact absurd HA.out (by simp [coppicelaw19_CmdTexts.j2])
          | succ kj26 =>
           have H := HA.out
           clear HA
           simp only [coppicelaw19_CmdTexts.j2] at H
           replace H := Option.bind_eq_some_iff.mp H
           obtain ⟨⟨t309, t312, t313, t314⟩, A480, H⟩ := H
           replace H : ((coppiceref19_All.f kj26 a1).bind fun bt315 => ((coppiceref19_Same.f kj26 t309 bt315.1).bind fun t320 => (if t320 = true then ((coppicelaw19_tells.f t312 t313 t314 bt315.2.1 bt315.2.2).bind fun t321 => (if t321 = true then ((cmd_Text.f kj26 t309).bind fun bt322 => (if t312 = 0 then (if bt322.2.1 = 0 then (some (bt322.1.toList == a1.toList)) else (some false)) else (some true))) else (some false))) else (some false)))) = some r := H
           have A48 := Aside0.mk A480
           clear A480
           replace H := Option.bind_eq_some_iff.mp H
           obtain ⟨⟨t315, t316, t317⟩, A490, H⟩ := H
           replace H : ((coppiceref19_Same.f kj26 t309 t315).bind fun t320 => (if t320 = true then ((coppicelaw19_tells.f t312 t313 t314 t316 t317).bind fun t321 => (if t321 = true then ((cmd_Text.f kj26 t309).bind fun bt322 => (if t312 = 0 then (if bt322.2.1 = 0 then (some (bt322.1.toList == a1.toList)) else (some false)) else (some true))) else (some false))) else (some false))) = some r := H
           have A49 := Aside0.mk A490
           clear A490
           replace H := Option.bind_eq_some_iff.mp H
           obtain ⟨t320, A500, H⟩ := H
           replace H : (if t320 = true then ((coppicelaw19_tells.f t312 t313 t314 t316 t317).bind fun t321 => (if t321 = true then ((cmd_Text.f kj26 t309).bind fun bt322 => (if t312 = 0 then (if bt322.2.1 = 0 then (some (bt322.1.toList == a1.toList)) else (some false)) else (some true))) else (some false))) else (some false)) = some r := H
           have A50 := Aside0.mk A500
           clear A500
           by_cases c51 : t320 = true
           ·subst c51
            have H1 : ((coppicelaw19_tells.f t312 t313 t314 t316 t317).bind fun t321 => (if t321 = true then ((cmd_Text.f kj26 t309).bind fun bt322 => (if t312 = 0 then (if bt322.2.1 = 0 then (some (bt322.1.toList == a1.toList)) else (some false)) else (some true))) else (some false))) = some r := by rw [if_pos rfl] at H; exact H
            clear H
            have H := H1
            clear H1
            replace H := Option.bind_eq_some_iff.mp H
            obtain ⟨t321, A520, H⟩ := H
            replace H : (if t321 = true then ((cmd_Text.f kj26 t309).bind fun bt322 => (if t312 = 0 then (if bt322.2.1 = 0 then (some (bt322.1.toList == a1.toList)) else (some false)) else (some true))) else (some false)) = some r := H
            have A52 := Aside0.mk A520
            clear A520
            by_cases c53 : t321 = true
            ·subst c53
             have H1 : ((cmd_Text.f kj26 t309).bind fun bt322 => (if t312 = 0 then (if bt322.2.1 = 0 then (some (bt322.1.toList == a1.toList)) else (some false)) else (some true))) = some r := by rw [if_pos rfl] at H; exact H
             clear H
             have H := H1
             clear H1
             replace H := Option.bind_eq_some_iff.mp H
             obtain ⟨⟨t322, t323, t324, t325⟩, A540, H⟩ := H
             replace H : (if t312 = 0 then (if t323 = 0 then (some (t322.toList == a1.toList)) else (some false)) else (some true)) = some r := H
             have A54 := Aside0.mk A540
             clear A540
             by_cases c55 : t312 = 0
             ·rw [if_pos c55] at H
              have c55b0 : (t312 == 0) = true := beq_iff_eq.mpr c55
              have c55b1 : (t312 != 0) = false := bne_eq_false_iff_eq.mpr c55
              clear c55
              by_cases c56 : t323 = 0
              ·rw [if_pos c56] at H
               have c56b0 : (t323 == 0) = true := beq_iff_eq.mpr c56
               have c56b1 : (t323 != 0) = false := bne_eq_false_iff_eq.mpr c56
               clear c56
               obtain rfl := Option.some.inj H
               go_wp2_with (first | ((with_reducible refine gate_callee (f := 18) rfl ?_); refine goesL_ (some 67) rfl rfl Tryz.func18 (by kernel_rfl) rfl #[.string a1] rfl (by (try simp only [List.map_toArray, List.map_cons, List.map_nil]); (rfl)) ?_; (with_reducible refine (cmd_All.calls kj26 a1 t309 t312 t313 t314 _ ?side1 A48.out).mono ?_); (case side1 => exact Tabs.on hT (by repeat (((with_reducible (exact HB.out)))))); rintro e w57 ⟨v310, rfl, ho0, hb⟩; refine ⟨_, rfl, ?_⟩; have n0_ := Aside0.mk (Kd.R_lower ho0 (below_size (by repeat (((with_reducible (exact HB.out))))))); have n1_ := Aside0.mk (blk_below (g := gb296) (o := .cells #[.int .i64 t293, .int .i64 t294, .int .i64 t295] 30 (0, 0)) (by (with_reducible repeat (fail)); exact BK296.out) hb); have n2_ := Aside0.mk (below_step (by repeat (((with_reducible (exact HB.out))))) hb); clear BK296; clear HB; have HO311 := n0_; have BK296 := n1_; have HB := n2_; clear n0_ n1_ n2_; (try clear hb); (try clear hb2); (try clear hk); (try clear hi); (try clear ho0); have hcz58_0 : w57.cell? ⟨gb296, 0, none⟩ = some (.int .i64 t293) := (blk_cell BK296.out 0).trans rfl; have hcz58_1 : w57.cell? ⟨gb296, 1, none⟩ = some (.int .i64 t294) := (blk_cell BK296.out 1).trans rfl; have hcz58_2 : w57.cell? ⟨gb296, 2, none⟩ = some (.int .i64 t295) := (blk_cell BK296.out 2).trans rfl; have hfz58_0 := blk_frozen BK296.out 0; have hfz58_1 := blk_frozen BK296.out 1; have hfz58_2 := blk_frozen BK296.out 2) | ((with_reducible refine gate_callee (f := 20) rfl ?_); refine goesL_ (some 72) rfl rfl Tryz.func20 (by kernel_rfl) rfl #[.string a1] rfl (by (try simp only [List.map_toArray, List.map_cons, List.map_nil]); (rfl)) ?_; (with_reducible refine (coppiceref19_All.calls kj26 a1 t315 t316 t317 _ A49.out).mono ?_); rintro e w59 ⟨v318, rfl, ho0, hb⟩; refine ⟨_, rfl, ?_⟩; have n0_ := Aside0.mk (Kd.R_elder' (by (with_reducible repeat (fail)); exact (Kd.R_mono (Kd.R_far (p := ⟨gb296, 2, none⟩) (Kd.R_far (p := ⟨gb296, 1, none⟩) (Kd.R_far (p := ⟨gb296, 0, none⟩) (Kd.R_types HO311.out BK296.out (by decide)) (fun _ hk => hk.2) (.int .i64 t312)) (fun _ hk => hk.2) (.int .i64 t313)) (fun _ hk => hk.2) (.int .i64 t314)) (fun _ h_ => h_.1))) (Kd.R_base ho0) hb); have n1_ := Aside0.mk (Kd.R_lower (Kd.R_new' ho0 (Kd.R_lt (by (with_reducible repeat (fail)); exact (Kd.R_mono (Kd.R_far (p := ⟨gb296, 2, none⟩) (Kd.R_far (p := ⟨gb296, 1, none⟩) (Kd.R_far (p := ⟨gb296, 0, none⟩) (Kd.R_types HO311.out BK296.out (by decide)) (fun _ hk => hk.2) (.int .i64 t312)) (fun _ hk => hk.2) (.int .i64 t313)) (fun _ hk => hk.2) (.int .i64 t314)) (fun _ h_ => h_.1))))) (below_size (by repeat (((with_reducible first | exact HB.out | refine below_set ?_ GE296.out)))))); have n2_ := Aside0.mk (blk_below (g := gb296) (o := .cells #[.int .i64 t312, .int .i64 t313, .int .i64 t314] 30 (0, 0)) (by (with_reducible repeat (fail)); refine blk_put (cs := #[.int .i64 t312, .int .i64 t313, .int .i64 t295]) ?_ 2 _ rfl; (with_reducible repeat (fail)); refine blk_put (cs := #[.int .i64 t312, .int .i64 t294, .int .i64 t295]) ?_ 1 _ rfl; (with_reducible repeat (fail)); refine blk_put (cs := #[.int .i64 t293, .int .i64 t294, .int .i64 t295]) ?_ 0 _ rfl; (with_reducible repeat (fail)); exact BK296.out) hb); have n3_ := Aside0.mk (below_step (by repeat (((with_reducible first | exact HB.out | refine below_set ?_ GE296.out)))) hb); clear HO311; clear BK296; clear HB; have HO311 := n0_; have HO319 := n1_; have BK296 := n2_; have HB := n3_; clear n0_ n1_ n2_ n3_; (try clear hb); (try clear hb2); (try clear hk); (try clear hi); (try clear ho0); obtain ⟨Ao60, co60, eo60⟩ := Kd.R_slice HO311.out; subst eo60; obtain ⟨Ao61, co61, eo61⟩ := Kd.R_slice HO319.out; subst eo61) | ((with_reducible refine gate_callee (f := 19) rfl ?_); refine goesL_ (some 78) rfl rfl Tryz.func19 (by kernel_rfl) rfl #[.slice Ao60 t309.length co60, .slice Ao61 t315.length co61] rfl (by (try simp only [List.map_toArray, List.map_cons, List.map_nil]); (rfl)) ?_; (with_reducible refine (coppiceref19_Same.calls kj26 _ _ t309 _ _ t315 true _ ?side1 ?side2 ?side3 ?side4 A50.out).mono ?_); (case side1 => repeat ((exact (Kd.R_reads' HO311.out).2.2))); (case side2 => exact (Kd.R_reads' HO311.out).2.1); (case side3 => repeat ((exact (Kd.R_reads' HO319.out).2.2))); (case side4 => exact (Kd.R_reads' HO319.out).2.1); rintro e w' ⟨rfl, ⟨nd, rfl⟩⟩; refine ⟨_, rfl, ?_⟩; have hcz62_0 : w59.cell? ⟨gb296, 0, none⟩ = some (.int .i64 t312) := (blk_cell BK296.out 0).trans rfl; have hcz62_1 : w59.cell? ⟨gb296, 1, none⟩ = some (.int .i64 t313) := (blk_cell BK296.out 1).trans rfl; have hcz62_2 : w59.cell? ⟨gb296, 2, none⟩ = some (.int .i64 t314) := (blk_cell BK296.out 2).trans rfl; have hfz62_0 := blk_frozen BK296.out 0; have hfz62_1 := blk_frozen BK296.out 1; have hfz62_2 := blk_frozen BK296.out 2) | (go_at_call 12; (with_reducible refine (coppicelaw19_tells.calls t312 t313 t314 t316 t317 true _ A52.out).mono ?_); rintro e w63 ⟨rfl, hb⟩; have n0_ := Aside0.mk (Kd.R_below (by (with_reducible repeat ((apply Kd.R_drewN))); exact HO311.out) hb); have n1_ := Aside0.mk (Kd.R_below (by (with_reducible repeat ((apply Kd.R_drewN))); exact HO319.out) hb); have n2_ := Aside0.mk (blk_below (g := gb296) (o := .cells #[.int .i64 t312, .int .i64 t313, .int .i64 t314] 30 (0, 0)) (by (with_reducible repeat ((refine blk_drewN ?_ _))); exact BK296.out) hb); have n3_ := Aside0.mk (below_step (by repeat (((with_reducible first | exact HB.out | apply pw_below_drewN )))) hb); clear HO311; clear HO319; clear BK296; clear HB; have HO311 := n0_; have HO319 := n1_; have BK296 := n2_; have HB := n3_; clear n0_ n1_ n2_ n3_; (try clear hb); (try clear hb2); (try clear hk); (try clear hi)) | ((with_reducible refine gate_callee (f := 16) rfl ?_); refine goesL_ (some 89) rfl rfl Tryz.func16 (by kernel_rfl) rfl #[.slice Ao60 t309.length co60] rfl (by (try simp only [List.map_toArray, List.map_cons, List.map_nil]); (rfl)) ?_; (with_reducible refine (cmd_Text.calls kj26 _ _ t309 t322 t323 t324 t325 _ ?side1 ?side2 ?side3 A54.out).mono ?_); (case side1 => repeat ((exact (Kd.R_reads' HO311.out).2.2))); (case side2 => exact (Kd.R_reads' HO311.out).2.1); (case side3 => exact Tabs.on hT (by repeat (((with_reducible (exact HB.out)))))); rintro e w64 ⟨rfl, hb⟩; refine ⟨_, rfl, ?_⟩; have n0_ := Aside0.mk (Kd.R_below (by (with_reducible repeat (fail)); exact HO311.out) hb); have n1_ := Aside0.mk (Kd.R_below (by (with_reducible repeat (fail)); exact HO319.out) hb); have n2_ := Aside0.mk (blk_below (g := gb296) (o := .cells #[.int .i64 t312, .int .i64 t313, .int .i64 t314] 30 (0, 0)) (by (with_reducible repeat (fail)); exact BK296.out) hb); have n3_ := Aside0.mk (below_step (by repeat (((with_reducible (exact HB.out))))) hb); clear HO311; clear HO319; clear BK296; clear HB; have HO311 := n0_; have HO319 := n1_; have BK296 := n2_; have HB := n3_; clear n0_ n1_ n2_ n3_; (try clear hb); (try clear hb2); (try clear hk); (try clear hi)) | ((with_reducible refine gate_dst (N := 15) rfl ?_); (try (refine gate_guard (by rfl) ?_; dsimp only)); refine box_event ?hg (N := 15) ?hd (cs := #[.int .i64 0, .int .i64 0, .int .i64 0]) (t := 30) ?hr ?_; (case hd => rfl); (case hg => rfl); (case hr => ((go_simp; done))); intro gb326 hg w65 hbox hb; have n0_ := Aside0.mk (Kd.R_below (by (with_reducible repeat (fail)); exact HO311.out) hb); have n1_ := Aside0.mk (Kd.R_below (by (with_reducible repeat (fail)); exact HO319.out) hb); have n2_ := Aside0.mk (blk_below (g := gb296) (o := .cells #[.int .i64 t312, .int .i64 t313, .int .i64 t314] 30 (0, 0)) (by (with_reducible repeat (fail)); exact BK296.out) hb); have n3_ := Aside0.mk (below_step (by repeat (((with_reducible (exact HB.out))))) hb); have n4_ := Aside0.mk (hbox); have n5_ := Aside0.mk ((by rw [hg]; exact (below_size (by repeat (((with_reducible (exact HB.out)))))) : w.heap.size ≤ gb326)); have n6_ := Aside0.mk ((by rw [hg]; exact (below_size (by repeat (((with_reducible (exact HB.out)))))) : w.heap.size ≤ gb326)); have n7_ := Aside0.mk ((by rw [hg]; exact Nat.ne_of_lt (blk_lt (g := gb296) (o := .cells #[.int .i64 t312, .int .i64 t313, .int .i64 t314] 30 (0, 0)) (by (with_reducible repeat (fail)); exact BK296.out)) : gb296 ≠ gb326)); have n8_ := Aside0.mk ((by rw [hg]; exact Nat.ne_of_gt (blk_lt (g := gb296) (o := .cells #[.int .i64 t312, .int .i64 t313, .int .i64 t314] 30 (0, 0)) (by (with_reducible repeat (fail)); exact BK296.out)) : gb326 ≠ gb296)); clear HO311; clear HO319; clear BK296; clear HB; have HO311 := n0_; have HO319 := n1_; have BK296 := n2_; have HB := n3_; have BK326 := n4_; have GW326 := n5_; have GE326 := n6_; have NB296_326 := n7_; have NB326_296 := n8_; clear n0_ n1_ n2_ n3_ n4_ n5_ n6_ n7_ n8_; clear hb hbox hg; have hnb66 := NB326_296.out; have hnc66 := NB296_326.out; have hcz67_0 : w65.cell? ⟨gb326, 0, none⟩ = some (.int .i64 0) := (blk_cell BK326.out 0).trans rfl; have hcz67_1 : w65.cell? ⟨gb326, 1, none⟩ = some (.int .i64 0) := (blk_cell BK326.out 1).trans rfl; have hcz67_2 : w65.cell? ⟨gb326, 2, none⟩ = some (.int .i64 0) := (blk_cell BK326.out 2).trans rfl; have hfz67_0 := blk_frozen BK326.out 0; have hfz67_1 := blk_frozen BK326.out 1; have hfz67_2 := blk_frozen BK326.out 2; have hcz68_0 : w65.cell? ⟨gb296, 0, none⟩ = some (.int .i64 t312) := (blk_cell BK296.out 0).trans rfl; have hcz68_1 : w65.cell? ⟨gb296, 1, none⟩ = some (.int .i64 t313) := (blk_cell BK296.out 1).trans rfl; have hcz68_2 : w65.cell? ⟨gb296, 2, none⟩ = some (.int .i64 t314) := (blk_cell BK296.out 2).trans rfl; have hfz68_0 := blk_frozen BK296.out 0; have hfz68_1 := blk_frozen BK296.out 1; have hfz68_2 := blk_frozen BK296.out 2))
               go_ret
               exact ⟨by (rfl), by repeat (((with_reducible first | exact HB.out | refine below_set ?_ GE326.out)))⟩
              ·rw [if_neg c56] at H
               have c56b0 : (t323 == 0) = false := beq_eq_false_iff_ne.mpr c56
               have c56b1 : (t323 != 0) = true := bne_iff_ne.mpr c56
               obtain rfl := Option.some.inj H
               go_wp2_with (first | ((with_reducible refine gate_callee (f := 18) rfl ?_); refine goesL_ (some 67) rfl rfl Tryz.func18 (by kernel_rfl) rfl #[.string a1] rfl (by (try simp only [List.map_toArray, List.map_cons, List.map_nil]); (rfl)) ?_; (with_reducible refine (cmd_All.calls kj26 a1 t309 t312 t313 t314 _ ?side1 A48.out).mono ?_); (case side1 => exact Tabs.on hT (by repeat (((with_reducible (exact HB.out)))))); rintro e w69 ⟨v310, rfl, ho0, hb⟩; refine ⟨_, rfl, ?_⟩; have n0_ := Aside0.mk (Kd.R_lower ho0 (below_size (by repeat (((with_reducible (exact HB.out))))))); have n1_ := Aside0.mk (blk_below (g := gb296) (o := .cells #[.int .i64 t293, .int .i64 t294, .int .i64 t295] 30 (0, 0)) (by (with_reducible repeat (fail)); exact BK296.out) hb); have n2_ := Aside0.mk (below_step (by repeat (((with_reducible (exact HB.out))))) hb); clear BK296; clear HB; have HO311 := n0_; have BK296 := n1_; have HB := n2_; clear n0_ n1_ n2_; (try clear hb); (try clear hb2); (try clear hk); (try clear hi); (try clear ho0); have hcz70_0 : w69.cell? ⟨gb296, 0, none⟩ = some (.int .i64 t293) := (blk_cell BK296.out 0).trans rfl; have hcz70_1 : w69.cell? ⟨gb296, 1, none⟩ = some (.int .i64 t294) := (blk_cell BK296.out 1).trans rfl; have hcz70_2 : w69.cell? ⟨gb296, 2, none⟩ = some (.int .i64 t295) := (blk_cell BK296.out 2).trans rfl; have hfz70_0 := blk_frozen BK296.out 0; have hfz70_1 := blk_frozen BK296.out 1; have hfz70_2 := blk_frozen BK296.out 2) | ((with_reducible refine gate_callee (f := 20) rfl ?_); refine goesL_ (some 72) rfl rfl Tryz.func20 (by kernel_rfl) rfl #[.string a1] rfl (by (try simp only [List.map_toArray, List.map_cons, List.map_nil]); (rfl)) ?_; (with_reducible refine (coppiceref19_All.calls kj26 a1 t315 t316 t317 _ A49.out).mono ?_); rintro e w71 ⟨v318, rfl, ho0, hb⟩; refine ⟨_, rfl, ?_⟩; have n0_ := Aside0.mk (Kd.R_elder' (by (with_reducible repeat (fail)); exact (Kd.R_mono (Kd.R_far (p := ⟨gb296, 2, none⟩) (Kd.R_far (p := ⟨gb296, 1, none⟩) (Kd.R_far (p := ⟨gb296, 0, none⟩) (Kd.R_types HO311.out BK296.out (by decide)) (fun _ hk => hk.2) (.int .i64 t312)) (fun _ hk => hk.2) (.int .i64 t313)) (fun _ hk => hk.2) (.int .i64 t314)) (fun _ h_ => h_.1))) (Kd.R_base ho0) hb); have n1_ := Aside0.mk (Kd.R_lower (Kd.R_new' ho0 (Kd.R_lt (by (with_reducible repeat (fail)); exact (Kd.R_mono (Kd.R_far (p := ⟨gb296, 2, none⟩) (Kd.R_far (p := ⟨gb296, 1, none⟩) (Kd.R_far (p := ⟨gb296, 0, none⟩) (Kd.R_types HO311.out BK296.out (by decide)) (fun _ hk => hk.2) (.int .i64 t312)) (fun _ hk => hk.2) (.int .i64 t313)) (fun _ hk => hk.2) (.int .i64 t314)) (fun _ h_ => h_.1))))) (below_size (by repeat (((with_reducible first | exact HB.out | refine below_set ?_ GE296.out)))))); have n2_ := Aside0.mk (blk_below (g := gb296) (o := .cells #[.int .i64 t312, .int .i64 t313, .int .i64 t314] 30 (0, 0)) (by (with_reducible repeat (fail)); refine blk_put (cs := #[.int .i64 t312, .int .i64 t313, .int .i64 t295]) ?_ 2 _ rfl; (with_reducible repeat (fail)); refine blk_put (cs := #[.int .i64 t312, .int .i64 t294, .int .i64 t295]) ?_ 1 _ rfl; (with_reducible repeat (fail)); refine blk_put (cs := #[.int .i64 t293, .int .i64 t294, .int .i64 t295]) ?_ 0 _ rfl; (with_reducible repeat (fail)); exact BK296.out) hb); have n3_ := Aside0.mk (below_step (by repeat (((with_reducible first | exact HB.out | refine below_set ?_ GE296.out)))) hb); clear HO311; clear BK296; clear HB; have HO311 := n0_; have HO319 := n1_; have BK296 := n2_; have HB := n3_; clear n0_ n1_ n2_ n3_; (try clear hb); (try clear hb2); (try clear hk); (try clear hi); (try clear ho0); obtain ⟨Ao72, co72, eo72⟩ := Kd.R_slice HO311.out; subst eo72; obtain ⟨Ao73, co73, eo73⟩ := Kd.R_slice HO319.out; subst eo73) | ((with_reducible refine gate_callee (f := 19) rfl ?_); refine goesL_ (some 78) rfl rfl Tryz.func19 (by kernel_rfl) rfl #[.slice Ao72 t309.length co72, .slice Ao73 t315.length co73] rfl (by (try simp only [List.map_toArray, List.map_cons, List.map_nil]); (rfl)) ?_; (with_reducible refine (coppiceref19_Same.calls kj26 _ _ t309 _ _ t315 true _ ?side1 ?side2 ?side3 ?side4 A50.out).mono ?_); (case side1 => repeat ((exact (Kd.R_reads' HO311.out).2.2))); (case side2 => exact (Kd.R_reads' HO311.out).2.1); (case side3 => repeat ((exact (Kd.R_reads' HO319.out).2.2))); (case side4 => exact (Kd.R_reads' HO319.out).2.1); rintro e w' ⟨rfl, ⟨nd, rfl⟩⟩; refine ⟨_, rfl, ?_⟩; have hcz74_0 : w71.cell? ⟨gb296, 0, none⟩ = some (.int .i64 t312) := (blk_cell BK296.out 0).trans rfl; have hcz74_1 : w71.cell? ⟨gb296, 1, none⟩ = some (.int .i64 t313) := (blk_cell BK296.out 1).trans rfl; have hcz74_2 : w71.cell? ⟨gb296, 2, none⟩ = some (.int .i64 t314) := (blk_cell BK296.out 2).trans rfl; have hfz74_0 := blk_frozen BK296.out 0; have hfz74_1 := blk_frozen BK296.out 1; have hfz74_2 := blk_frozen BK296.out 2) | (go_at_call 12; (with_reducible refine (coppicelaw19_tells.calls t312 t313 t314 t316 t317 true _ A52.out).mono ?_); rintro e w75 ⟨rfl, hb⟩; have n0_ := Aside0.mk (Kd.R_below (by (with_reducible repeat ((apply Kd.R_drewN))); exact HO311.out) hb); have n1_ := Aside0.mk (Kd.R_below (by (with_reducible repeat ((apply Kd.R_drewN))); exact HO319.out) hb); have n2_ := Aside0.mk (blk_below (g := gb296) (o := .cells #[.int .i64 t312, .int .i64 t313, .int .i64 t314] 30 (0, 0)) (by (with_reducible repeat ((refine blk_drewN ?_ _))); exact BK296.out) hb); have n3_ := Aside0.mk (below_step (by repeat (((with_reducible first | exact HB.out | apply pw_below_drewN )))) hb); clear HO311; clear HO319; clear BK296; clear HB; have HO311 := n0_; have HO319 := n1_; have BK296 := n2_; have HB := n3_; clear n0_ n1_ n2_ n3_; (try clear hb); (try clear hb2); (try clear hk); (try clear hi)) | ((with_reducible refine gate_callee (f := 16) rfl ?_); refine goesL_ (some 89) rfl rfl Tryz.func16 (by kernel_rfl) rfl #[.slice Ao72 t309.length co72] rfl (by (try simp only [List.map_toArray, List.map_cons, List.map_nil]); (rfl)) ?_; (with_reducible refine (cmd_Text.calls kj26 _ _ t309 t322 t323 t324 t325 _ ?side1 ?side2 ?side3 A54.out).mono ?_); (case side1 => repeat ((exact (Kd.R_reads' HO311.out).2.2))); (case side2 => exact (Kd.R_reads' HO311.out).2.1); (case side3 => exact Tabs.on hT (by repeat (((with_reducible (exact HB.out)))))); rintro e w76 ⟨rfl, hb⟩; refine ⟨_, rfl, ?_⟩; have n0_ := Aside0.mk (Kd.R_below (by (with_reducible repeat (fail)); exact HO311.out) hb); have n1_ := Aside0.mk (Kd.R_below (by (with_reducible repeat (fail)); exact HO319.out) hb); have n2_ := Aside0.mk (blk_below (g := gb296) (o := .cells #[.int .i64 t312, .int .i64 t313, .int .i64 t314] 30 (0, 0)) (by (with_reducible repeat (fail)); exact BK296.out) hb); have n3_ := Aside0.mk (below_step (by repeat (((with_reducible (exact HB.out))))) hb); clear HO311; clear HO319; clear BK296; clear HB; have HO311 := n0_; have HO319 := n1_; have BK296 := n2_; have HB := n3_; clear n0_ n1_ n2_ n3_; (try clear hb); (try clear hb2); (try clear hk); (try clear hi)) | ((with_reducible refine gate_dst (N := 15) rfl ?_); (try (refine gate_guard (by rfl) ?_; dsimp only)); refine box_event ?hg (N := 15) ?hd (cs := #[.int .i64 0, .int .i64 0, .int .i64 0]) (t := 30) ?hr ?_; (case hd => rfl); (case hg => rfl); (case hr => ((go_simp; done))); intro gb326 hg w77 hbox hb; have n0_ := Aside0.mk (Kd.R_below (by (with_reducible repeat (fail)); exact HO311.out) hb); have n1_ := Aside0.mk (Kd.R_below (by (with_reducible repeat (fail)); exact HO319.out) hb); have n2_ := Aside0.mk (blk_below (g := gb296) (o := .cells #[.int .i64 t312, .int .i64 t313, .int .i64 t314] 30 (0, 0)) (by (with_reducible repeat (fail)); exact BK296.out) hb); have n3_ := Aside0.mk (below_step (by repeat (((with_reducible (exact HB.out))))) hb); have n4_ := Aside0.mk (hbox); have n5_ := Aside0.mk ((by rw [hg]; exact (below_size (by repeat (((with_reducible (exact HB.out)))))) : w.heap.size ≤ gb326)); have n6_ := Aside0.mk ((by rw [hg]; exact (below_size (by repeat (((with_reducible (exact HB.out)))))) : w.heap.size ≤ gb326)); have n7_ := Aside0.mk ((by rw [hg]; exact Nat.ne_of_lt (blk_lt (g := gb296) (o := .cells #[.int .i64 t312, .int .i64 t313, .int .i64 t314] 30 (0, 0)) (by (with_reducible repeat (fail)); exact BK296.out)) : gb296 ≠ gb326)); have n8_ := Aside0.mk ((by rw [hg]; exact Nat.ne_of_gt (blk_lt (g := gb296) (o := .cells #[.int .i64 t312, .int .i64 t313, .int .i64 t314] 30 (0, 0)) (by (with_reducible repeat (fail)); exact BK296.out)) : gb326 ≠ gb296)); clear HO311; clear HO319; clear BK296; clear HB; have HO311 := n0_; have HO319 := n1_; have BK296 := n2_; have HB := n3_; have BK326 := n4_; have GW326 := n5_; have GE326 := n6_; have NB296_326 := n7_; have NB326_296 := n8_; clear n0_ n1_ n2_ n3_ n4_ n5_ n6_ n7_ n8_; clear hb hbox hg; have hnb78 := NB326_296.out; have hnc78 := NB296_326.out; have hcz79_0 : w77.cell? ⟨gb326, 0, none⟩ = some (.int .i64 0) := (blk_cell BK326.out 0).trans rfl; have hcz79_1 : w77.cell? ⟨gb326, 1, none⟩ = some (.int .i64 0) := (blk_cell BK326.out 1).trans rfl; have hcz79_2 : w77.cell? ⟨gb326, 2, none⟩ = some (.int .i64 0) := (blk_cell BK326.out 2).trans rfl; have hfz79_0 := blk_frozen BK326.out 0; have hfz79_1 := blk_frozen BK326.out 1; have hfz79_2 := blk_frozen BK326.out 2; have hcz80_0 : w77.cell? ⟨gb296, 0, none⟩ = some (.int .i64 t312) := (blk_cell BK296.out 0).trans rfl; have hcz80_1 : w77.cell? ⟨gb296, 1, none⟩ = some (.int .i64 t313) := (blk_cell BK296.out 1).trans rfl; have hcz80_2 : w77.cell? ⟨gb296, 2, none⟩ = some (.int .i64 t314) := (blk_cell BK296.out 2).trans rfl; have hfz80_0 := blk_frozen BK296.out 0; have hfz80_1 := blk_frozen BK296.out 1; have hfz80_2 := blk_frozen BK296.out 2))
               go_ret
               exact ⟨by (rfl), by repeat (((with_reducible first | exact HB.out | refine below_set ?_ GE326.out)))⟩
             ·rw [if_neg c55] at H
              have c55b0 : (t312 == 0) = false := beq_eq_false_iff_ne.mpr c55
              have c55b1 : (t312 != 0) = true := bne_iff_ne.mpr c55
              obtain rfl := Option.some.inj H
              go_wp2_with (first | ((with_reducible refine gate_callee (f := 18) rfl ?_); refine goesL_ (some 67) rfl rfl Tryz.func18 (by kernel_rfl) rfl #[.string a1] rfl (by (try simp only [List.map_toArray, List.map_cons, List.map_nil]); (rfl)) ?_; (with_reducible refine (cmd_All.calls kj26 a1 t309 t312 t313 t314 _ ?side1 A48.out).mono ?_); (case side1 => exact Tabs.on hT (by repeat (((with_reducible (exact HB.out)))))); rintro e w81 ⟨v310, rfl, ho0, hb⟩; refine ⟨_, rfl, ?_⟩; have n0_ := Aside0.mk (Kd.R_lower ho0 (below_size (by repeat (((with_reducible (exact HB.out))))))); have n1_ := Aside0.mk (blk_below (g := gb296) (o := .cells #[.int .i64 t293, .int .i64 t294, .int .i64 t295] 30 (0, 0)) (by (with_reducible repeat (fail)); exact BK296.out) hb); have n2_ := Aside0.mk (below_step (by repeat (((with_reducible (exact HB.out))))) hb); clear BK296; clear HB; have HO311 := n0_; have BK296 := n1_; have HB := n2_; clear n0_ n1_ n2_; (try clear hb); (try clear hb2); (try clear hk); (try clear hi); (try clear ho0); have hcz82_0 : w81.cell? ⟨gb296, 0, none⟩ = some (.int .i64 t293) := (blk_cell BK296.out 0).trans rfl; have hcz82_1 : w81.cell? ⟨gb296, 1, none⟩ = some (.int .i64 t294) := (blk_cell BK296.out 1).trans rfl; have hcz82_2 : w81.cell? ⟨gb296, 2, none⟩ = some (.int .i64 t295) := (blk_cell BK296.out 2).trans rfl; have hfz82_0 := blk_frozen BK296.out 0; have hfz82_1 := blk_frozen BK296.out 1; have hfz82_2 := blk_frozen BK296.out 2) | ((with_reducible refine gate_callee (f := 20) rfl ?_); refine goesL_ (some 72) rfl rfl Tryz.func20 (by kernel_rfl) rfl #[.string a1] rfl (by (try simp only [List.map_toArray, List.map_cons, List.map_nil]); (rfl)) ?_; (with_reducible refine (coppiceref19_All.calls kj26 a1 t315 t316 t317 _ A49.out).mono ?_); rintro e w83 ⟨v318, rfl, ho0, hb⟩; refine ⟨_, rfl, ?_⟩; have n0_ := Aside0.mk (Kd.R_elder' (by (with_reducible repeat (fail)); exact (Kd.R_mono (Kd.R_far (p := ⟨gb296, 2, none⟩) (Kd.R_far (p := ⟨gb296, 1, none⟩) (Kd.R_far (p := ⟨gb296, 0, none⟩) (Kd.R_types HO311.out BK296.out (by decide)) (fun _ hk => hk.2) (.int .i64 t312)) (fun _ hk => hk.2) (.int .i64 t313)) (fun _ hk => hk.2) (.int .i64 t314)) (fun _ h_ => h_.1))) (Kd.R_base ho0) hb); have n1_ := Aside0.mk (Kd.R_lower (Kd.R_new' ho0 (Kd.R_lt (by (with_reducible repeat (fail)); exact (Kd.R_mono (Kd.R_far (p := ⟨gb296, 2, none⟩) (Kd.R_far (p := ⟨gb296, 1, none⟩) (Kd.R_far (p := ⟨gb296, 0, none⟩) (Kd.R_types HO311.out BK296.out (by decide)) (fun _ hk => hk.2) (.int .i64 t312)) (fun _ hk => hk.2) (.int .i64 t313)) (fun _ hk => hk.2) (.int .i64 t314)) (fun _ h_ => h_.1))))) (below_size (by repeat (((with_reducible first | exact HB.out | refine below_set ?_ GE296.out)))))); have n2_ := Aside0.mk (blk_below (g := gb296) (o := .cells #[.int .i64 t312, .int .i64 t313, .int .i64 t314] 30 (0, 0)) (by (with_reducible repeat (fail)); refine blk_put (cs := #[.int .i64 t312, .int .i64 t313, .int .i64 t295]) ?_ 2 _ rfl; (with_reducible repeat (fail)); refine blk_put (cs := #[.int .i64 t312, .int .i64 t294, .int .i64 t295]) ?_ 1 _ rfl; (with_reducible repeat (fail)); refine blk_put (cs := #[.int .i64 t293, .int .i64 t294, .int .i64 t295]) ?_ 0 _ rfl; (with_reducible repeat (fail)); exact BK296.out) hb); have n3_ := Aside0.mk (below_step (by repeat (((with_reducible first | exact HB.out | refine below_set ?_ GE296.out)))) hb); clear HO311; clear BK296; clear HB; have HO311 := n0_; have HO319 := n1_; have BK296 := n2_; have HB := n3_; clear n0_ n1_ n2_ n3_; (try clear hb); (try clear hb2); (try clear hk); (try clear hi); (try clear ho0); obtain ⟨Ao84, co84, eo84⟩ := Kd.R_slice HO311.out; subst eo84; obtain ⟨Ao85, co85, eo85⟩ := Kd.R_slice HO319.out; subst eo85) | ((with_reducible refine gate_callee (f := 19) rfl ?_); refine goesL_ (some 78) rfl rfl Tryz.func19 (by kernel_rfl) rfl #[.slice Ao84 t309.length co84, .slice Ao85 t315.length co85] rfl (by (try simp only [List.map_toArray, List.map_cons, List.map_nil]); (rfl)) ?_; (with_reducible refine (coppiceref19_Same.calls kj26 _ _ t309 _ _ t315 true _ ?side1 ?side2 ?side3 ?side4 A50.out).mono ?_); (case side1 => repeat ((exact (Kd.R_reads' HO311.out).2.2))); (case side2 => exact (Kd.R_reads' HO311.out).2.1); (case side3 => repeat ((exact (Kd.R_reads' HO319.out).2.2))); (case side4 => exact (Kd.R_reads' HO319.out).2.1); rintro e w' ⟨rfl, ⟨nd, rfl⟩⟩; refine ⟨_, rfl, ?_⟩; have hcz86_0 : w83.cell? ⟨gb296, 0, none⟩ = some (.int .i64 t312) := (blk_cell BK296.out 0).trans rfl; have hcz86_1 : w83.cell? ⟨gb296, 1, none⟩ = some (.int .i64 t313) := (blk_cell BK296.out 1).trans rfl; have hcz86_2 : w83.cell? ⟨gb296, 2, none⟩ = some (.int .i64 t314) := (blk_cell BK296.out 2).trans rfl; have hfz86_0 := blk_frozen BK296.out 0; have hfz86_1 := blk_frozen BK296.out 1; have hfz86_2 := blk_frozen BK296.out 2) | (go_at_call 12; (with_reducible refine (coppicelaw19_tells.calls t312 t313 t314 t316 t317 true _ A52.out).mono ?_); rintro e w87 ⟨rfl, hb⟩; have n0_ := Aside0.mk (Kd.R_below (by (with_reducible repeat ((apply Kd.R_drewN))); exact HO311.out) hb); have n1_ := Aside0.mk (Kd.R_below (by (with_reducible repeat ((apply Kd.R_drewN))); exact HO319.out) hb); have n2_ := Aside0.mk (blk_below (g := gb296) (o := .cells #[.int .i64 t312, .int .i64 t313, .int .i64 t314] 30 (0, 0)) (by (with_reducible repeat ((refine blk_drewN ?_ _))); exact BK296.out) hb); have n3_ := Aside0.mk (below_step (by repeat (((with_reducible first | exact HB.out | apply pw_below_drewN )))) hb); clear HO311; clear HO319; clear BK296; clear HB; have HO311 := n0_; have HO319 := n1_; have BK296 := n2_; have HB := n3_; clear n0_ n1_ n2_ n3_; (try clear hb); (try clear hb2); (try clear hk); (try clear hi)) | ((with_reducible refine gate_callee (f := 16) rfl ?_); refine goesL_ (some 89) rfl rfl Tryz.func16 (by kernel_rfl) rfl #[.slice Ao84 t309.length co84] rfl (by (try simp only [List.map_toArray, List.map_cons, List.map_nil]); (rfl)) ?_; (with_reducible refine (cmd_Text.calls kj26 _ _ t309 t322 t323 t324 t325 _ ?side1 ?side2 ?side3 A54.out).mono ?_); (case side1 => repeat ((exact (Kd.R_reads' HO311.out).2.2))); (case side2 => exact (Kd.R_reads' HO311.out).2.1); (case side3 => exact Tabs.on hT (by repeat (((with_reducible (exact HB.out)))))); rintro e w88 ⟨rfl, hb⟩; refine ⟨_, rfl, ?_⟩; have n0_ := Aside0.mk (Kd.R_below (by (with_reducible repeat (fail)); exact HO311.out) hb); have n1_ := Aside0.mk (Kd.R_below (by (with_reducible repeat (fail)); exact HO319.out) hb); have n2_ := Aside0.mk (blk_below (g := gb296) (o := .cells #[.int .i64 t312, .int .i64 t313, .int .i64 t314] 30 (0, 0)) (by (with_reducible repeat (fail)); exact BK296.out) hb); have n3_ := Aside0.mk (below_step (by repeat (((with_reducible (exact HB.out))))) hb); clear HO311; clear HO319; clear BK296; clear HB; have HO311 := n0_; have HO319 := n1_; have BK296 := n2_; have HB := n3_; clear n0_ n1_ n2_ n3_; (try clear hb); (try clear hb2); (try clear hk); (try clear hi)) | ((with_reducible refine gate_dst (N := 15) rfl ?_); (try (refine gate_guard (by rfl) ?_; dsimp only)); refine box_event ?hg (N := 15) ?hd (cs := #[.int .i64 0, .int .i64 0, .int .i64 0]) (t := 30) ?hr ?_; (case hd => rfl); (case hg => rfl); (case hr => ((go_simp; done))); intro gb326 hg w89 hbox hb; have n0_ := Aside0.mk (Kd.R_below (by (with_reducible repeat (fail)); exact HO311.out) hb); have n1_ := Aside0.mk (Kd.R_below (by (with_reducible repeat (fail)); exact HO319.out) hb); have n2_ := Aside0.mk (blk_below (g := gb296) (o := .cells #[.int .i64 t312, .int .i64 t313, .int .i64 t314] 30 (0, 0)) (by (with_reducible repeat (fail)); exact BK296.out) hb); have n3_ := Aside0.mk (below_step (by repeat (((with_reducible (exact HB.out))))) hb); have n4_ := Aside0.mk (hbox); have n5_ := Aside0.mk ((by rw [hg]; exact (below_size (by repeat (((with_reducible (exact HB.out)))))) : w.heap.size ≤ gb326)); have n6_ := Aside0.mk ((by rw [hg]; exact (below_size (by repeat (((with_reducible (exact HB.out)))))) : w.heap.size ≤ gb326)); have n7_ := Aside0.mk ((by rw [hg]; exact Nat.ne_of_lt (blk_lt (g := gb296) (o := .cells #[.int .i64 t312, .int .i64 t313, .int .i64 t314] 30 (0, 0)) (by (with_reducible repeat (fail)); exact BK296.out)) : gb296 ≠ gb326)); have n8_ := Aside0.mk ((by rw [hg]; exact Nat.ne_of_gt (blk_lt (g := gb296) (o := .cells #[.int .i64 t312, .int .i64 t313, .int .i64 t314] 30 (0, 0)) (by (with_reducible repeat (fail)); exact BK296.out)) : gb326 ≠ gb296)); clear HO311; clear HO319; clear BK296; clear HB; have HO311 := n0_; have HO319 := n1_; have BK296 := n2_; have HB := n3_; have BK326 := n4_; have GW326 := n5_; have GE326 := n6_; have NB296_326 := n7_; have NB326_296 := n8_; clear n0_ n1_ n2_ n3_ n4_ n5_ n6_ n7_ n8_; clear hb hbox hg; have hnb90 := NB326_296.out; have hnc90 := NB296_326.out; have hcz91_0 : w89.cell? ⟨gb326, 0, none⟩ = some (.int .i64 0) := (blk_cell BK326.out 0).trans rfl; have hcz91_1 : w89.cell? ⟨gb326, 1, none⟩ = some (.int .i64 0) := (blk_cell BK326.out 1).trans rfl; have hcz91_2 : w89.cell? ⟨gb326, 2, none⟩ = some (.int .i64 0) := (blk_cell BK326.out 2).trans rfl; have hfz91_0 := blk_frozen BK326.out 0; have hfz91_1 := blk_frozen BK326.out 1; have hfz91_2 := blk_frozen BK326.out 2; have hcz92_0 : w89.cell? ⟨gb296, 0, none⟩ = some (.int .i64 t312) := (blk_cell BK296.out 0).trans rfl; have hcz92_1 : w89.cell? ⟨gb296, 1, none⟩ = some (.int .i64 t313) := (blk_cell BK296.out 1).trans rfl; have hcz92_2 : w89.cell? ⟨gb296, 2, none⟩ = some (.int .i64 t314) := (blk_cell BK296.out 2).trans rfl; have hfz92_0 := blk_frozen BK296.out 0; have hfz92_1 := blk_frozen BK296.out 1; have hfz92_2 := blk_frozen BK296.out 2))
              go_ret
              exact ⟨by (rfl), by repeat (((with_reducible first | exact HB.out | refine below_set ?_ GE326.out)))⟩
            ·replace c53 := Bool.eq_false_iff.mpr c53
             subst c53
             have H1 : (some false) = some r := by rw [if_neg (show ¬ (false = true) by decide)] at H; exact H
             clear H
             have H := H1
             clear H1
             obtain rfl := Option.some.inj H
             go_wp2_with (first | ((with_reducible refine gate_callee (f := 18) rfl ?_); refine goesL_ (some 67) rfl rfl Tryz.func18 (by kernel_rfl) rfl #[.string a1] rfl (by (try simp only [List.map_toArray, List.map_cons, List.map_nil]); (rfl)) ?_; (with_reducible refine (cmd_All.calls kj26 a1 t309 t312 t313 t314 _ ?side1 A48.out).mono ?_); (case side1 => exact Tabs.on hT (by repeat (((with_reducible (exact HB.out)))))); rintro e w93 ⟨v310, rfl, ho0, hb⟩; refine ⟨_, rfl, ?_⟩; have n0_ := Aside0.mk (Kd.R_lower ho0 (below_size (by repeat (((with_reducible (exact HB.out))))))); have n1_ := Aside0.mk (blk_below (g := gb296) (o := .cells #[.int .i64 t293, .int .i64 t294, .int .i64 t295] 30 (0, 0)) (by (with_reducible repeat (fail)); exact BK296.out) hb); have n2_ := Aside0.mk (below_step (by repeat (((with_reducible (exact HB.out))))) hb); clear BK296; clear HB; have HO311 := n0_; have BK296 := n1_; have HB := n2_; clear n0_ n1_ n2_; (try clear hb); (try clear hb2); (try clear hk); (try clear hi); (try clear ho0); have hcz94_0 : w93.cell? ⟨gb296, 0, none⟩ = some (.int .i64 t293) := (blk_cell BK296.out 0).trans rfl; have hcz94_1 : w93.cell? ⟨gb296, 1, none⟩ = some (.int .i64 t294) := (blk_cell BK296.out 1).trans rfl; have hcz94_2 : w93.cell? ⟨gb296, 2, none⟩ = some (.int .i64 t295) := (blk_cell BK296.out 2).trans rfl; have hfz94_0 := blk_frozen BK296.out 0; have hfz94_1 := blk_frozen BK296.out 1; have hfz94_2 := blk_frozen BK296.out 2) | ((with_reducible refine gate_callee (f := 20) rfl ?_); refine goesL_ (some 72) rfl rfl Tryz.func20 (by kernel_rfl) rfl #[.string a1] rfl (by (try simp only [List.map_toArray, List.map_cons, List.map_nil]); (rfl)) ?_; (with_reducible refine (coppiceref19_All.calls kj26 a1 t315 t316 t317 _ A49.out).mono ?_); rintro e w95 ⟨v318, rfl, ho0, hb⟩; refine ⟨_, rfl, ?_⟩; have n0_ := Aside0.mk (Kd.R_elder' (by (with_reducible repeat (fail)); exact (Kd.R_mono (Kd.R_far (p := ⟨gb296, 2, none⟩) (Kd.R_far (p := ⟨gb296, 1, none⟩) (Kd.R_far (p := ⟨gb296, 0, none⟩) (Kd.R_types HO311.out BK296.out (by decide)) (fun _ hk => hk.2) (.int .i64 t312)) (fun _ hk => hk.2) (.int .i64 t313)) (fun _ hk => hk.2) (.int .i64 t314)) (fun _ h_ => h_.1))) (Kd.R_base ho0) hb); have n1_ := Aside0.mk (Kd.R_lower (Kd.R_new' ho0 (Kd.R_lt (by (with_reducible repeat (fail)); exact (Kd.R_mono (Kd.R_far (p := ⟨gb296, 2, none⟩) (Kd.R_far (p := ⟨gb296, 1, none⟩) (Kd.R_far (p := ⟨gb296, 0, none⟩) (Kd.R_types HO311.out BK296.out (by decide)) (fun _ hk => hk.2) (.int .i64 t312)) (fun _ hk => hk.2) (.int .i64 t313)) (fun _ hk => hk.2) (.int .i64 t314)) (fun _ h_ => h_.1))))) (below_size (by repeat (((with_reducible first | exact HB.out | refine below_set ?_ GE296.out)))))); have n2_ := Aside0.mk (blk_below (g := gb296) (o := .cells #[.int .i64 t312, .int .i64 t313, .int .i64 t314] 30 (0, 0)) (by (with_reducible repeat (fail)); refine blk_put (cs := #[.int .i64 t312, .int .i64 t313, .int .i64 t295]) ?_ 2 _ rfl; (with_reducible repeat (fail)); refine blk_put (cs := #[.int .i64 t312, .int .i64 t294, .int .i64 t295]) ?_ 1 _ rfl; (with_reducible repeat (fail)); refine blk_put (cs := #[.int .i64 t293, .int .i64 t294, .int .i64 t295]) ?_ 0 _ rfl; (with_reducible repeat (fail)); exact BK296.out) hb); have n3_ := Aside0.mk (below_step (by repeat (((with_reducible first | exact HB.out | refine below_set ?_ GE296.out)))) hb); clear HO311; clear BK296; clear HB; have HO311 := n0_; have HO319 := n1_; have BK296 := n2_; have HB := n3_; clear n0_ n1_ n2_ n3_; (try clear hb); (try clear hb2); (try clear hk); (try clear hi); (try clear ho0); obtain ⟨Ao96, co96, eo96⟩ := Kd.R_slice HO311.out; subst eo96; obtain ⟨Ao97, co97, eo97⟩ := Kd.R_slice HO319.out; subst eo97) | ((with_reducible refine gate_callee (f := 19) rfl ?_); refine goesL_ (some 78) rfl rfl Tryz.func19 (by kernel_rfl) rfl #[.slice Ao96 t309.length co96, .slice Ao97 t315.length co97] rfl (by (try simp only [List.map_toArray, List.map_cons, List.map_nil]); (rfl)) ?_; (with_reducible refine (coppiceref19_Same.calls kj26 _ _ t309 _ _ t315 true _ ?side1 ?side2 ?side3 ?side4 A50.out).mono ?_); (case side1 => repeat ((exact (Kd.R_reads' HO311.out).2.2))); (case side2 => exact (Kd.R_reads' HO311.out).2.1); (case side3 => repeat ((exact (Kd.R_reads' HO319.out).2.2))); (case side4 => exact (Kd.R_reads' HO319.out).2.1); rintro e w' ⟨rfl, ⟨nd, rfl⟩⟩; refine ⟨_, rfl, ?_⟩; have hcz98_0 : w95.cell? ⟨gb296, 0, none⟩ = some (.int .i64 t312) := (blk_cell BK296.out 0).trans rfl; have hcz98_1 : w95.cell? ⟨gb296, 1, none⟩ = some (.int .i64 t313) := (blk_cell BK296.out 1).trans rfl; have hcz98_2 : w95.cell? ⟨gb296, 2, none⟩ = some (.int .i64 t314) := (blk_cell BK296.out 2).trans rfl; have hfz98_0 := blk_frozen BK296.out 0; have hfz98_1 := blk_frozen BK296.out 1; have hfz98_2 := blk_frozen BK296.out 2) | (go_at_call 12; (with_reducible refine (coppicelaw19_tells.calls t312 t313 t314 t316 t317 false _ A52.out).mono ?_); rintro e w99 ⟨rfl, hb⟩; have n0_ := Aside0.mk (Kd.R_below (by (with_reducible repeat ((apply Kd.R_drewN))); exact HO311.out) hb); have n1_ := Aside0.mk (Kd.R_below (by (with_reducible repeat ((apply Kd.R_drewN))); exact HO319.out) hb); have n2_ := Aside0.mk (blk_below (g := gb296) (o := .cells #[.int .i64 t312, .int .i64 t313, .int .i64 t314] 30 (0, 0)) (by (with_reducible repeat ((refine blk_drewN ?_ _))); exact BK296.out) hb); have n3_ := Aside0.mk (below_step (by repeat (((with_reducible first | exact HB.out | apply pw_below_drewN )))) hb); clear HO311; clear HO319; clear BK296; clear HB; have HO311 := n0_; have HO319 := n1_; have BK296 := n2_; have HB := n3_; clear n0_ n1_ n2_ n3_; (try clear hb); (try clear hb2); (try clear hk); (try clear hi)))
             go_ret
             exact ⟨by (rfl), by repeat (((with_reducible (exact HB.out))))⟩
           ·replace c51 := Bool.eq_false_iff.mpr c51
            subst c51
            have H1 : (some false) = some r := by rw [if_neg (show ¬ (false = true) by decide)] at H; exact H
            clear H
            have H := H1
            clear H1
            obtain rfl := Option.some.inj H
            go_wp2_with (first | ((with_reducible refine gate_callee (f := 18) rfl ?_); refine goesL_ (some 67) rfl rfl Tryz.func18 (by kernel_rfl) rfl #[.string a1] rfl (by (try simp only [List.map_toArray, List.map_cons, List.map_nil]); (rfl)) ?_; (with_reducible refine (cmd_All.calls kj26 a1 t309 t312 t313 t314 _ ?side1 A48.out).mono ?_); (case side1 => exact Tabs.on hT (by repeat (((with_reducible (exact HB.out)))))); rintro e w100 ⟨v310, rfl, ho0, hb⟩; refine ⟨_, rfl, ?_⟩; have n0_ := Aside0.mk (Kd.R_lower ho0 (below_size (by repeat (((with_reducible (exact HB.out))))))); have n1_ := Aside0.mk (blk_below (g := gb296) (o := .cells #[.int .i64 t293, .int .i64 t294, .int .i64 t295] 30 (0, 0)) (by (with_reducible repeat (fail)); exact BK296.out) hb); have n2_ := Aside0.mk (below_step (by repeat (((with_reducible (exact HB.out))))) hb); clear BK296; clear HB; have HO311 := n0_; have BK296 := n1_; have HB := n2_; clear n0_ n1_ n2_; (try clear hb); (try clear hb2); (try clear hk); (try clear hi); (try clear ho0); have hcz101_0 : w100.cell? ⟨gb296, 0, none⟩ = some (.int .i64 t293) := (blk_cell BK296.out 0).trans rfl; have hcz101_1 : w100.cell? ⟨gb296, 1, none⟩ = some (.int .i64 t294) := (blk_cell BK296.out 1).trans rfl; have hcz101_2 : w100.cell? ⟨gb296, 2, none⟩ = some (.int .i64 t295) := (blk_cell BK296.out 2).trans rfl; have hfz101_0 := blk_frozen BK296.out 0; have hfz101_1 := blk_frozen BK296.out 1; have hfz101_2 := blk_frozen BK296.out 2) | ((with_reducible refine gate_callee (f := 20) rfl ?_); refine goesL_ (some 72) rfl rfl Tryz.func20 (by kernel_rfl) rfl #[.string a1] rfl (by (try simp only [List.map_toArray, List.map_cons, List.map_nil]); (rfl)) ?_; (with_reducible refine (coppiceref19_All.calls kj26 a1 t315 t316 t317 _ A49.out).mono ?_); rintro e w102 ⟨v318, rfl, ho0, hb⟩; refine ⟨_, rfl, ?_⟩; have n0_ := Aside0.mk (Kd.R_elder' (by (with_reducible repeat (fail)); exact (Kd.R_mono (Kd.R_far (p := ⟨gb296, 2, none⟩) (Kd.R_far (p := ⟨gb296, 1, none⟩) (Kd.R_far (p := ⟨gb296, 0, none⟩) (Kd.R_types HO311.out BK296.out (by decide)) (fun _ hk => hk.2) (.int .i64 t312)) (fun _ hk => hk.2) (.int .i64 t313)) (fun _ hk => hk.2) (.int .i64 t314)) (fun _ h_ => h_.1))) (Kd.R_base ho0) hb); have n1_ := Aside0.mk (Kd.R_lower (Kd.R_new' ho0 (Kd.R_lt (by (with_reducible repeat (fail)); exact (Kd.R_mono (Kd.R_far (p := ⟨gb296, 2, none⟩) (Kd.R_far (p := ⟨gb296, 1, none⟩) (Kd.R_far (p := ⟨gb296, 0, none⟩) (Kd.R_types HO311.out BK296.out (by decide)) (fun _ hk => hk.2) (.int .i64 t312)) (fun _ hk => hk.2) (.int .i64 t313)) (fun _ hk => hk.2) (.int .i64 t314)) (fun _ h_ => h_.1))))) (below_size (by repeat (((with_reducible first | exact HB.out | refine below_set ?_ GE296.out)))))); have n2_ := Aside0.mk (blk_below (g := gb296) (o := .cells #[.int .i64 t312, .int .i64 t313, .int .i64 t314] 30 (0, 0)) (by (with_reducible repeat (fail)); refine blk_put (cs := #[.int .i64 t312, .int .i64 t313, .int .i64 t295]) ?_ 2 _ rfl; (with_reducible repeat (fail)); refine blk_put (cs := #[.int .i64 t312, .int .i64 t294, .int .i64 t295]) ?_ 1 _ rfl; (with_reducible repeat (fail)); refine blk_put (cs := #[.int .i64 t293, .int .i64 t294, .int .i64 t295]) ?_ 0 _ rfl; (with_reducible repeat (fail)); exact BK296.out) hb); have n3_ := Aside0.mk (below_step (by repeat (((with_reducible first | exact HB.out | refine below_set ?_ GE296.out)))) hb); clear HO311; clear BK296; clear HB; have HO311 := n0_; have HO319 := n1_; have BK296 := n2_; have HB := n3_; clear n0_ n1_ n2_ n3_; (try clear hb); (try clear hb2); (try clear hk); (try clear hi); (try clear ho0); obtain ⟨Ao103, co103, eo103⟩ := Kd.R_slice HO311.out; subst eo103; obtain ⟨Ao104, co104, eo104⟩ := Kd.R_slice HO319.out; subst eo104) | ((with_reducible refine gate_callee (f := 19) rfl ?_); refine goesL_ (some 78) rfl rfl Tryz.func19 (by kernel_rfl) rfl #[.slice Ao103 t309.length co103, .slice Ao104 t315.length co104] rfl (by (try simp only [List.map_toArray, List.map_cons, List.map_nil]); (rfl)) ?_; (with_reducible refine (coppiceref19_Same.calls kj26 _ _ t309 _ _ t315 false _ ?side1 ?side2 ?side3 ?side4 A50.out).mono ?_); (case side1 => repeat ((exact (Kd.R_reads' HO311.out).2.2))); (case side2 => exact (Kd.R_reads' HO311.out).2.1); (case side3 => repeat ((exact (Kd.R_reads' HO319.out).2.2))); (case side4 => exact (Kd.R_reads' HO319.out).2.1); rintro e w' ⟨rfl, ⟨nd, rfl⟩⟩; refine ⟨_, rfl, ?_⟩))
            go_ret
            exact ⟨by (rfl), by repeat (((with_reducible first | exact HB.out | apply pw_below_drewN )))⟩
     ·rw [if_neg c10] at H
      exact absurd H (by simp)
 ·replace c4 := Bool.eq_false_iff.mpr c4
  subst c4
  have H1 : (some false) = some r := by rw [if_neg (show ¬ (false = true) by decide)] at H; exact H
  clear H
  have H := H1
  clear H1
  obtain rfl := Option.some.inj H
  go_enter Tryz.func7, Tryz.ntmps7
  go_wp2_with (first | ((with_reducible refine gate_callee (f := 8) rfl ?_); refine goesL_ (some 16) rfl rfl Tryz.func8 (by kernel_rfl) rfl #[] rfl (by (try simp only [List.map_toArray, List.map_cons, List.map_nil]); (done)) ?_; (with_reducible refine (coppicelaw19_awake.calls k  false _ ?side1 A3.out).mono ?_); (case side1 => exact Tabs.on hT (by repeat (((with_reducible (exact HB.out)))))); rintro e w105 ⟨rfl, hb⟩; refine ⟨_, rfl, ?_⟩; have n0_ := Aside0.mk (below_step (by repeat (((with_reducible (exact HB.out))))) hb); clear HB; have HB := n0_; clear n0_; (try clear hb); (try clear hb2); (try clear hk); (try clear hi)))
  go_ret
  exact ⟨by (rfl), by repeat (((with_reducible (exact HB.out))))⟩

/-- The bounds of a value of struct type 23. -/
def wf23 (x : S23) : Prop := (Lit.int .i64 x.f0).wf = true ∧ x.f1.size ≤ maxLen ∧ x.f2.size ≤ maxLen ∧ x.f3.size ≤ maxLen ∧ (Lit.int .i64 x.f4).wf = true ∧ x.f5.size ≤ maxLen
/-- THE ONE PURE STATEMENT of coppicelaw19_CmdTexts. -/
def coppicelaw19_CmdTexts.Pure : Prop := ∀ (x0 : List (S23)) (x1 : ByteArray), (x0.length ≤ maxLen ∧ ∀ y0 ∈ x0, wf23 y0) → x1.size ≤ 140737488351232 → ∃ k, coppicelaw19_CmdTexts.f k x0 x1 = some true

end Go.Proofs.YtofdpgcnconibaaGreatDoor.PA
