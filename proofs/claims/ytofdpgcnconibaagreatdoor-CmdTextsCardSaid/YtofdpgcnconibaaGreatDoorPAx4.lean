-- WRITTEN BY a program of this session (pp.sh)
import Derived.Test.YtofdpgcnconibaaGreatDoorPAx0
import Derived.Test.YtofdpgcnconibaaGreatDoorPAx3
set_option linter.unusedVariables false
set_option linter.unusedSimpArgs false
namespace Go.Proofs.YtofdpgcnconibaaGreatDoor.PA
open Go.RowKit Go.Proofs.YtofdpgcnconibaaGreatDoorW.PrintWords Go.Proofs.YtofdpgcnconibaaGreatDoorW.PrintLast Go.Proofs.YtofdpgcnconibaaGreatDoorW.PrintMore Go.Proofs.YtofdpgcnconibaaGreatDoor.Plain
attribute [local go_sem] max2_int min2_int max_two min_two max_three min_three max_four min_four binOp_leq_s binOp_gtr_s binOp_geq_s lit_byte   -- for this text's walks alone
set_option linter.unusedVariables false
set_option linter.unusedSimpArgs false

/-! ### path_OrphanOf: function 93, by hand -/
/-- strconv.Atoi, of a numeral. -/
theorem atoi_ok (s : ByteArray) (n : Int) (hA : Lib.atoiAll s.data.toList = .ok n) (hs : s.size ≤ 281474976710656) (w : World) :
    Calls Tryz.prog 98 #[.string s] w fun e w' => e = .returned (.tuple #[.int .i64 n, .nilIface]) ∧ Below w.heap.size w w' := by
  refine (Tryz.strconv_Atoi_ok s (by omega) n hA w).mono fun e w' ⟨he, hw⟩ => ⟨he, ?_⟩
  rcases hw with rfl | ⟨t, rfl⟩
  · exact Below.refl _ _
  · exact Lib.bytesWorld_below w _ _
/-- strconv.Atoi, of another text. -/
theorem atoi_bad (s : ByteArray) (hA : ∀ n, Lib.atoiAll s.data.toList ≠ .ok n) (hs : s.size ≤ 281474976710656) (w : World) (hT : Tabs w) :
    Calls Tryz.prog 98 #[.string s] w fun e w' => ∃ v t p, e = .returned (.tuple #[.int .i64 v, .iface t (.pointer p)]) ∧ Below w.heap.size w w' := by
  obtain ⟨⟨t2, p2, h2⟩, t3, p3, h3⟩ := hT.errs
  rcases hB : Lib.atoiAll s.data.toList with n | _ | _
  · exact absurd hB (hA n)
  · exact (Any.strconv_Atoi_syntax_var Tryz.laysC172 s hs hB t2 p2 w h2).mono fun e w' ⟨N, he, _, _, hw⟩ => ⟨_, _, _, he, hw⟩
  · exact (Any.strconv_Atoi_range_var Tryz.laysC172 s hs hB t3 p3 w h3).mono fun e w' ⟨N, he, _, _, hw⟩ => ⟨_, _, _, he, hw⟩
theorem cutPrefix_zero (s : ByteArray) : strings_CutPrefix.f s (⟨#[0]⟩ : ByteArray) = some (if s.data.toList.head? = some 0 then (⟨s.data.toList.tail.toArray⟩, true) else (s, false)) := by
  unfold strings_CutPrefix.f stringslite_CutPrefix.f stringslite_HasPrefix.f
  have h1 : (((⟨#[0]⟩ : ByteArray).size : Nat) : Int) = 1 := rfl
  have hL : s.data.toList.length = s.size := by rw [Array.length_toList]; rfl
  rw [h1]
  rcases hd : s.data.toList with _ | ⟨c, l⟩
  · have hz : s.size = 0 := by rw [← hL, hd]; rfl
    rw [if_neg (by omega), Option.bind_some, if_neg (by decide), Option.bind_some, if_neg (by simp)]
  · have hz : s.size = l.length + 1 := by rw [← hL, hd]; rfl
    have e : s.extract 0 (1 : Int).toNat = ⟨#[c]⟩ := extract_headL s c l hd
    have e2 : s.extract (1 : Int).toNat s.size = ⟨l.toArray⟩ := extract_tailL s c l hd
    rw [if_pos (by omega), if_pos (by omega), if_pos (by omega), Option.bind_some, e, ByteArray.toList_eq, ByteArray.toList_eq]
    by_cases hc : c = 0
    · subst hc
      rw [if_pos (by rfl), if_pos (by omega), if_pos (by omega), Option.bind_some, e2, if_pos (by rfl)]
      rfl
    · rw [if_neg (by simp [hc]), Option.bind_some, if_neg (by simp [hc])]
/-- Whose orphan's name it is. -/
def orphanV (s : ByteArray) : Int × Bool :=
  match s.data.toList with
  | [] => (0, false)
  | c :: t => if c = 0 then match Lib.atoiAll t with
    | .ok n => if 1 ≤ n ∧ n ≤ 1099511627776 ∧ 0 :: Lib.itoa n = s.data.toList then (n, true) else (0, false)
    | _ => (0, false)
   else (0, false)
theorem orphanV_other (s : ByteArray) (h : ¬ s.data.toList.head? = some 0) : orphanV s = (0, false) := by
  unfold orphanV
  split
  · rfl
  · next c t he => rw [if_neg (fun e => h (by rw [he, e]; rfl))]
theorem orphanV_bad (s : ByteArray) (h : s.data.toList.head? = some 0) (hb : ∀ n, Lib.atoiAll s.data.toList.tail ≠ .ok n) : orphanV s = (0, false) := by
  unfold orphanV
  split
  · rfl
  · next c t he =>
    rw [he] at hb
    split
    · split
      · next n hn => exact absurd hn (hb n)
      · rfl
    · rfl
theorem orphanV_ok (s : ByteArray) (n : Int) (h : s.data.toList.head? = some 0) (hb : Lib.atoiAll s.data.toList.tail = .ok n) : orphanV s = if 1 ≤ n ∧ n ≤ 1099511627776 ∧ 0 :: Lib.itoa n = s.data.toList then (n, true) else (0, false) := by
  unfold orphanV
  split
  · next he => rw [he] at h; cases h
  · next c t he =>
    rw [he] at hb h
    rw [if_pos (Option.some.inj h)]
    simp only [List.tail_cons] at hb
    rw [hb, he]
def path_OrphanOf.f (a0 : ByteArray) : Option (Int × Bool) := if a0.size ≤ 281474976710656 then some (orphanV a0) else none
theorem orphan_small (n : Int) (h : ¬ (1 ≤ n ∧ n ≤ 1099511627776)) : path_Orphan.f n = some ((⟨#[]⟩ : ByteArray), 1) := by
  unfold path_Orphan.f
  by_cases h1 : n < 1
  · rw [if_pos h1]
  · rw [if_neg h1, if_pos (by omega)]
theorem itoa_len (n : Int) (h : 1 ≤ n ∧ n ≤ 1099511627776) : (Lib.itoa n).length ≤ 100 := by
  exact Nat.le_trans (Lib.itoa_length_le n (by omega) (by omega)) (by omega)
theorem orphan_text (n : Int) (h : 1 ≤ n ∧ n ≤ 1099511627776) : path_Orphan.f n = some ((⟨(0 :: Lib.itoa n).toArray⟩ : ByteArray), 0) := by
  unfold path_Orphan.f strconv_Itoa.f
  have hl := itoa_len n h
  have hz : (⟨(Lib.itoa n).toArray⟩ : ByteArray).size = (Lib.itoa n).length := by show (Lib.itoa n).toArray.size = _; simp
  rw [if_neg (by omega), if_neg (by omega), if_pos (by omega), Option.bind_some, hz, if_pos (by omega)]
  congr 2
set_option maxHeartbeats 4000000 in
set_option maxRecDepth 100000 in
theorem path_OrphanOf.calls (a0 : ByteArray) (r1 : Int) (r2 : Bool) (w : World) (hT : Tabs w) (h : path_OrphanOf.f a0 = some (r1, r2)) :
    Calls Tryz.prog 93 #[.string a0] w fun e w' => e = .returned (.tuple #[.int .i64 r1, .bool r2]) ∧ Below w.heap.size w w' := by
  unfold path_OrphanOf.f at h
  split at h
  case isFalse => cases h
  case isTrue hs =>
  have hv := Option.some.inj h
  clear h
  have hL : a0.data.toList.length = a0.size := by rw [Array.length_toList]; rfl
  have hcp := cutPrefix_zero a0
  have hb0 := Aside0.mk (Below.refl w.heap.size w)
  by_cases hh : a0.data.toList.head? = some 0
  · rw [if_pos hh] at hcp
    generalize hdg : (⟨a0.data.toList.tail.toArray⟩ : ByteArray) = dg at *
    have hds : dg.size ≤ 281474976710656 := by
      rw [← hdg]
      show a0.data.toList.tail.toArray.size ≤ _
      rw [List.size_toArray, List.length_tail, hL]; omega
    have hdl : dg.data.toList = a0.data.toList.tail := by rw [← hdg]
    by_cases hok : ∃ n, Lib.atoiAll dg.data.toList = .ok n
    · obtain ⟨n, hn⟩ := hok
      have hv2 := orphanV_ok a0 n hh (by rw [← hdl]; exact hn)
      rw [hv] at hv2
      by_cases hr : 1 ≤ n ∧ n ≤ 1099511627776
      · have ho := orphan_text n hr
        generalize hox : (⟨(0 :: Lib.itoa n).toArray⟩ : ByteArray) = ox at *
        have hod : ox.data.toList = 0 :: Lib.itoa n := by rw [← hox]
        rw [← hod] at hv2
        have HC := Aside0.mk hcp
        have HA := Aside0.mk hn
        have HO := Aside0.mk ho
        by_cases he : ox.data.toList = a0.data.toList
        · rw [if_pos ⟨hr.1, hr.2, he⟩] at hv2
          obtain ⟨rfl, rfl⟩ : r1 = n ∧ r2 = true := by simpa using hv2
          have hq : (ox.toList == a0.toList) = true := by rw [ByteArray.toList_eq, ByteArray.toList_eq]; simp [he]
          clear hcp hn ho hod hox he hv2 hv hh hL hdl hdg hr
          go_enter Tryz.func93, Tryz.ntmps93
          go_wp2_with (first
            | (go_at_call 89; refine (strings_CutPrefix.calls a0 _ _ _ _ HC.out).mono ?_; rintro e w1 ⟨rfl, ⟨nd, rfl⟩⟩)
            | (go_at_call 98; refine (atoi_ok dg _ HA.out hds _).mono ?_; rintro e w2 ⟨rfl, hb2⟩; have HB2 := Aside0.mk ((pw_below_drewN hb0.out _).trans hb2); clear hb2)
            | (go_at_call 99; refine (path_Orphan.calls _ _ _ _ (Tabs.on hT HB2.out) HO.out).mono ?_; rintro e w3 ⟨rfl, hb3⟩; have HB3 := Aside0.mk (HB2.out.trans (hb3.mono HB2.out.size)); clear hb3))
          go_ret2
          exact ⟨rfl, HB3.out⟩
        · rw [if_neg (fun h => he h.2.2)] at hv2
          obtain ⟨rfl, rfl⟩ : r1 = 0 ∧ r2 = false := by simpa using hv2
          have hq : (ox.toList == a0.toList) = false := by rw [ByteArray.toList_eq, ByteArray.toList_eq]; exact beq_eq_false_iff_ne.mpr he
          clear hcp hn ho hod hox he hv2 hv hh hL hdl hdg hr
          go_enter Tryz.func93, Tryz.ntmps93
          go_wp2_with (first
            | (go_at_call 89; refine (strings_CutPrefix.calls a0 _ _ _ _ HC.out).mono ?_; rintro e w1 ⟨rfl, ⟨nd, rfl⟩⟩)
            | (go_at_call 98; refine (atoi_ok dg _ HA.out hds _).mono ?_; rintro e w2 ⟨rfl, hb2⟩; have HB2 := Aside0.mk ((pw_below_drewN hb0.out _).trans hb2); clear hb2)
            | (go_at_call 99; refine (path_Orphan.calls _ _ _ _ (Tabs.on hT HB2.out) HO.out).mono ?_; rintro e w3 ⟨rfl, hb3⟩; have HB3 := Aside0.mk (HB2.out.trans (hb3.mono HB2.out.size)); clear hb3))
          go_ret2
          exact ⟨rfl, HB3.out⟩
      · rw [if_neg (fun h => hr ⟨h.1, h.2.1⟩)] at hv2
        obtain ⟨rfl, rfl⟩ : r1 = 0 ∧ r2 = false := by simpa using hv2
        have HC := Aside0.mk hcp
        have HA := Aside0.mk hn
        have HO := Aside0.mk (orphan_small n hr)
        clear hcp hn hv2 hv hh hL hdl hdg hr
        go_enter Tryz.func93, Tryz.ntmps93
        go_wp2_with (first
          | (go_at_call 89; refine (strings_CutPrefix.calls a0 _ _ _ _ HC.out).mono ?_; rintro e w1 ⟨rfl, ⟨nd, rfl⟩⟩)
          | (go_at_call 98; refine (atoi_ok dg _ HA.out hds _).mono ?_; rintro e w2 ⟨rfl, hb2⟩; have HB2 := Aside0.mk ((pw_below_drewN hb0.out _).trans hb2); clear hb2)
          | (go_at_call 99; refine (path_Orphan.calls _ _ _ _ (Tabs.on hT HB2.out) HO.out).mono ?_; rintro e w3 ⟨rfl, hb3⟩; have HB3 := Aside0.mk (HB2.out.trans (hb3.mono HB2.out.size)); clear hb3))
        go_ret2
        exact ⟨rfl, HB3.out⟩
    · have hn : ∀ n, Lib.atoiAll dg.data.toList ≠ .ok n := fun n h => hok ⟨n, h⟩
      have hv2 := orphanV_bad a0 hh (by rw [← hdl]; exact hn)
      rw [hv] at hv2
      obtain ⟨rfl, rfl⟩ : r1 = 0 ∧ r2 = false := by simpa using hv2
      have HC := Aside0.mk hcp
      have HA := Aside0.mk hn
      clear hcp hn hv2 hv hh hL hdl hdg hok
      go_enter Tryz.func93, Tryz.ntmps93
      go_wp2_with (first
        | (go_at_call 89; refine (strings_CutPrefix.calls a0 _ _ _ _ HC.out).mono ?_; rintro e w1 ⟨rfl, ⟨nd, rfl⟩⟩)
        | (go_at_call 98; refine (atoi_bad dg HA.out hds _ (Tabs.on hT (pw_below_drewN hb0.out _))).mono ?_; rintro e w2 ⟨v_, t_, p_, rfl, hb2⟩; have HB2 := Aside0.mk ((pw_below_drewN hb0.out _).trans hb2); clear hb2)
        | (go_at_call 99; refine (path_Orphan.calls _ _ _ _ (Tabs.on hT HB2.out) HO.out).mono ?_; rintro e w3 ⟨rfl, hb3⟩; have HB3 := Aside0.mk (HB2.out.trans (hb3.mono HB2.out.size)); clear hb3))
      go_ret2
      exact ⟨rfl, HB2.out⟩
  · rw [if_neg hh] at hcp
    have hv2 := orphanV_other a0 hh
    rw [hv] at hv2
    obtain ⟨rfl, rfl⟩ : r1 = 0 ∧ r2 = false := by simpa using hv2
    have HC := Aside0.mk hcp
    by_cases hok : ∃ n, Lib.atoiAll a0.data.toList = .ok n
    · obtain ⟨n, hn⟩ := hok
      have HA := Aside0.mk hn
      clear hcp hn hv2 hv hh hL
      go_enter Tryz.func93, Tryz.ntmps93
      go_wp2_with (first
        | (go_at_call 89; refine (strings_CutPrefix.calls a0 _ _ _ _ HC.out).mono ?_; rintro e w1 ⟨rfl, ⟨nd, rfl⟩⟩)
        | (go_at_call 98; refine (atoi_ok a0 _ HA.out hs _).mono ?_; rintro e w2 ⟨rfl, hb2⟩; have HB2 := Aside0.mk ((pw_below_drewN hb0.out _).trans hb2); clear hb2)
        | (go_at_call 99; refine (path_Orphan.calls _ _ _ _ (Tabs.on hT HB2.out) HO.out).mono ?_; rintro e w3 ⟨rfl, hb3⟩; have HB3 := Aside0.mk (HB2.out.trans (hb3.mono HB2.out.size)); clear hb3))
      go_ret2
      exact ⟨rfl, HB2.out⟩
    · have hn : ∀ n, Lib.atoiAll a0.data.toList ≠ .ok n := fun n h => hok ⟨n, h⟩
      have HA := Aside0.mk hn
      clear hcp hn hv2 hv hh hL hok
      go_enter Tryz.func93, Tryz.ntmps93
      go_wp2_with (first
        | (go_at_call 89; refine (strings_CutPrefix.calls a0 _ _ _ _ HC.out).mono ?_; rintro e w1 ⟨rfl, ⟨nd, rfl⟩⟩)
        | (go_at_call 98; refine (atoi_bad a0 HA.out hs _ (Tabs.on hT (pw_below_drewN hb0.out _))).mono ?_; rintro e w2 ⟨v_, t_, p_, rfl, hb2⟩; have HB2 := Aside0.mk ((pw_below_drewN hb0.out _).trans hb2); clear hb2)
        | (go_at_call 99; refine (path_Orphan.calls _ _ _ _ (Tabs.on hT HB2.out) HO.out).mono ?_; rintro e w3 ⟨rfl, hb3⟩; have HB3 := Aside0.mk (HB2.out.trans (hb3.mono HB2.out.size)); clear hb3))
      go_ret2
      exact ⟨rfl, HB2.out⟩


/-! ### path_loosely: function 82 -/
def path_loosely.f (a0 : ByteArray) : Option (Bool) := (path_OrphanOf.f a0).bind fun bt105 => (if bt105.2 = true then (some true) else ((path_Name.f a0).bind fun t107 => (some t107)))
set_option maxHeartbeats 8000000 in
set_option maxRecDepth 100000 in
theorem path_loosely.calls (a0 : ByteArray) (r : Bool) (w : World) (hT : Tabs w) (h : path_loosely.f a0 = some r) :
  Calls Tryz.prog 82 #[.string a0] w fun e w' => e = .returned (.bool r) ∧ Below w.heap.size w w' := by
 have HB := Aside0.mk (Below.refl w.heap.size w)
 have H : ((path_OrphanOf.f a0).bind fun bt105 => (if bt105.2 = true then (some true) else ((path_Name.f a0).bind fun t107 => (some t107)))) = some r := h
 clear h
 replace H := Option.bind_eq_some_iff.mp H
 obtain ⟨⟨t105, t106⟩, A20, H⟩ := H
 replace H : (if t106 = true then (some true) else ((path_Name.f a0).bind fun t107 => (some t107))) = some r := H
 have A2 := Aside0.mk A20
 clear A20
 by_cases c3 : t106 = true
 ·subst c3
  have H1 : (some true) = some r := by rw [if_pos rfl] at H; exact H
  clear H
  have H := H1
  clear H1
  obtain rfl := Option.some.inj H
  go_enter Tryz.func82, Tryz.ntmps82
  go_wp2_with (first | ((with_reducible refine gate_callee (f := 93) rfl ?_); refine goesL_ (some 7) rfl rfl Tryz.func93 (by kernel_rfl) rfl #[.string a0] rfl (by (try simp only [List.map_toArray, List.map_cons, List.map_nil]); first | done | rfl | (simp only [List.length_drop, List.length_take]; rfl)) ?_; (with_reducible refine (path_OrphanOf.calls a0 t105 true _ ?side1 A2.out).mono ?_); (case side1 => exact Tabs.on hT (by repeat (first | (with_reducible first | exact HB.out | apply below_alloc | apply pw_below_drewN | apply below_drew1) | exact HB.out))); rintro e w4 ⟨rfl, hb⟩; refine ⟨_, rfl, ?_⟩; have n0_ := Aside0.mk (below_step (by repeat (first | (with_reducible first | exact HB.out | apply below_alloc | apply pw_below_drewN | apply below_drew1) | exact HB.out)) hb); clear HB; have HB := n0_; clear n0_; (try clear hb); (try clear hb2); (try clear hk); (try clear hi)))
  go_ret
  exact ⟨by first | rfl | (simp [errW_none, errW_some] <;> rfl) | (simp [*, errW_none, errW_some] <;> rfl), by repeat (first | (with_reducible first | exact HB.out | apply below_alloc | apply pw_below_drewN | apply below_drew1) | exact HB.out)⟩
 ·replace c3 := Bool.eq_false_iff.mpr c3
  subst c3
  have H1 : ((path_Name.f a0).bind fun t107 => (some t107)) = some r := by rw [if_neg (show ¬ (false = true) by decide)] at H; exact H
  clear H
  have H := H1
  clear H1
  replace H := Option.bind_eq_some_iff.mp H
  obtain ⟨t107, A50, H⟩ := H
  replace H : (some t107) = some r := H
  have A5 := Aside0.mk A50
  clear A50
  obtain rfl := Option.some.inj H
  go_enter Tryz.func82, Tryz.ntmps82
  go_wp2_with (first | ((with_reducible refine gate_callee (f := 93) rfl ?_); refine goesL_ (some 7) rfl rfl Tryz.func93 (by kernel_rfl) rfl #[.string a0] rfl (by (try simp only [List.map_toArray, List.map_cons, List.map_nil]); first | done | rfl | (simp only [List.length_drop, List.length_take]; rfl)) ?_; (with_reducible refine (path_OrphanOf.calls a0 t105 false _ ?side1 A2.out).mono ?_); (case side1 => exact Tabs.on hT (by repeat (first | (with_reducible first | exact HB.out | apply below_alloc | apply pw_below_drewN | apply below_drew1) | exact HB.out))); rintro e w6 ⟨rfl, hb⟩; refine ⟨_, rfl, ?_⟩; have n0_ := Aside0.mk (below_step (by repeat (first | (with_reducible first | exact HB.out | apply below_alloc | apply pw_below_drewN | apply below_drew1) | exact HB.out)) hb); clear HB; have HB := n0_; clear n0_; (try clear hb); (try clear hb2); (try clear hk); (try clear hi)) | (go_at_call 48; (with_reducible refine (path_Name.calls a0 t107 _ A5.out).mono ?_); rintro e w7 ⟨rfl, hb⟩; have n0_ := Aside0.mk (below_step (by repeat (first | (with_reducible first | exact HB.out | apply below_alloc | apply pw_below_drewN | apply below_drew1) | exact HB.out)) hb); clear HB; have HB := n0_; clear n0_; (try clear hb); (try clear hb2); (try clear hk); (try clear hi)))
  go_ret
  exact ⟨by first | rfl | (simp [errW_none, errW_some] <;> rfl) | (simp [*, errW_none, errW_some] <;> rfl), by repeat (first | (with_reducible first | exact HB.out | apply below_alloc | apply pw_below_drewN | apply below_drew1) | exact HB.out)⟩

/-! ### strings_Index: function 94, by hand -/
/-- strings.Index, asked for one byte. -/
def strings_Index.f (a0 a1 : ByteArray) : Option Int := if a1.size = 1 then some (Lib.indexByte a0.data.toList (a1.data.getD 0 0)) else none
theorem strings_Index.calls (a0 a1 : ByteArray) (r : Int) (w : World) (h : strings_Index.f a0 a1 = some r) :
    Calls Tryz.prog 94 #[.string a0, .string a1] w fun e w' => e = .returned (.int .i64 r) ∧ Drawn0 w w' := by
  unfold strings_Index.f at h
  split at h
  case isFalse => cases h
  case isTrue hh =>
  obtain rfl := Option.some.inj h
  obtain ⟨⟨l⟩⟩ := a1
  obtain ⟨c, rfl⟩ : ∃ c, l = [c] := List.length_eq_one_iff.mp hh
  exact (Tryz.strings_Index_one a0 c w).mono fun e w' ⟨he, hw⟩ => ⟨he, ⟨0, hw⟩⟩


/-! ### strings_explode: function 102, by hand -/
/-- strings.explode: not asked for. -/
def strings_explode.f (a0 : ByteArray) (a1 : Int) : Option (List ByteArray) := none
theorem strings_explode.calls (a0 : ByteArray) (a1 : Int) (r : List ByteArray) (w : World) (h : strings_explode.f a0 a1 = some r) :
    Calls Tryz.prog 102 #[.string a0, .int .i64 a1] w fun e w' => ∃ v0_ : Value, e = .returned (v0_) ∧ Kd.R Kd.string 9 w' w.heap.size (fun _ => True) v0_ r ∧ Below w.heap.size w w' := by cases h


/-! ### strings_Count: function 103, by hand -/
/-- strings.Count, asked for one byte. -/
def strings_Count.f (a0 a1 : ByteArray) : Option Int := if a1.size = 1 then some (Lib.countByte a0.data.toList (a1.data.getD 0 0)) else none
theorem strings_Count.calls (a0 a1 : ByteArray) (r : Int) (w : World) (h : strings_Count.f a0 a1 = some r) :
    Calls Tryz.prog 103 #[.string a0, .string a1] w fun e w' => e = .returned (.int .i64 r) ∧ Drawn0 w w' := by
  unfold strings_Count.f at h
  split at h
  case isFalse => cases h
  case isTrue hh =>
  obtain rfl := Option.some.inj h
  obtain ⟨⟨l⟩⟩ := a1
  obtain ⟨c, rfl⟩ : ∃ c, l = [c] := List.length_eq_one_iff.mp hh
  exact (Tryz.strings_Count_one a0 c w).mono fun e w' ⟨he, hw⟩ => ⟨he, ⟨0, hw⟩⟩


end Go.Proofs.YtofdpgcnconibaaGreatDoor.PA
