-- WRITTEN BY a program of this session (pp.sh)
import Derived.Test.YtkfmilfmpmmpkaaDoorPBx0
import Derived.Test.YtkfmilfmpmmpkaaDoorPBx3
import Derived.Test.YtkfmilfmpmmpkaaDoorPBx6
namespace Go.Proofs.YtkfmilfmpmmpkaaDoor.PB
open Go.RowKit Go.Proofs.YtkfmilfmpmmpkaaDoorW.PrintWords Go.Proofs.YtkfmilfmpmmpkaaDoorW.PrintLast Go.Proofs.YtkfmilfmpmmpkaaDoorW.PrintMore Go.Proofs.YtkfmilfmpmmpkaaDoor.Plain
attribute [local go_sem] max2_int min2_int max_two min_two max_three min_three max_four min_four binOp_leq_s binOp_gtr_s binOp_geq_s lit_byte   -- for this text's walks alone
set_option linter.unusedVariables false
set_option linter.unusedSimpArgs false

/-! ### path_OrphanOf: function 18, by hand -/
/-- strconv.Atoi, of a numeral. -/
theorem atoi_ok (s : ByteArray) (n : Int) (hA : Lib.atoiAll s.data.toList = .ok n) (hs : s.size ≤ 281474976710656) (w : World) :
    Calls Tryd.prog 36 #[.string s] w fun e w' => e = .returned (.tuple #[.int .i64 n, .nilIface]) ∧ Below w.heap.size w w' := by
  refine (Tryd.strconv_Atoi_ok s (by omega) n hA w).mono fun e w' ⟨he, hw⟩ => ⟨he, ?_⟩
  rcases hw with rfl | ⟨t, rfl⟩
  · exact Below.refl _ _
  · exact Lib.bytesWorld_below w _ _
/-- strconv.Atoi, of another text. -/
theorem atoi_bad (s : ByteArray) (hA : ∀ n, Lib.atoiAll s.data.toList ≠ .ok n) (hs : s.size ≤ 281474976710656) (w : World) (hT : Tabs w) :
    Calls Tryd.prog 36 #[.string s] w fun e w' => ∃ v t p, e = .returned (.tuple #[.int .i64 v, .iface t (.pointer p)]) ∧ Below w.heap.size w w' := by
  obtain ⟨h1, ⟨t2, p2, h2⟩, t3, p3, h3⟩ := hT
  rcases hB : Lib.atoiAll s.data.toList with n | _ | _
  · exact absurd hB (hA n)
  · exact (Any.strconv_Atoi_syntax_var Tryd.laysC172 s hs hB t2 p2 w h2).mono fun e w' ⟨N, he, _, _, hw⟩ => ⟨_, _, _, he, hw⟩
  · exact (Any.strconv_Atoi_range_var Tryd.laysC172 s hs hB t3 p3 w h3).mono fun e w' ⟨N, he, _, _, hw⟩ => ⟨_, _, _, he, hw⟩
theorem cutPrefix_zero (s : ByteArray) : strings_CutPrefix.f s (⟨#[0]⟩ : ByteArray) = some (if s.data.toList.head? = some 0 then (⟨s.data.toList.tail.toArray⟩, true) else (s, false)) := by
  unfold strings_CutPrefix.f stringslite_CutPrefix.f stringslite_HasPrefix.f
  have h1 : (((⟨#[0]⟩ : ByteArray).size : Nat) : Int) = 1 := rfl
  have hL : s.data.toList.length = s.size := by rw [Array.length_toList]; rfl
  rw [h1]
  rcases hd : s.data.toList with _ | ⟨c, l⟩
  · have hz : s.size = 0 := by rw [← hL, hd]; rfl
    rw [if_neg (by omega), Option.bind_some, if_neg (by decide), Option.bind_some, if_neg (by simp)]
  · have hz : s.size = l.length + 1 := by rw [← hL, hd]; rfl
    have e : s.extract 0 (1 : Int).toNat = ⟨#[c]⟩ := extract_headL s c l hd
    have e2 : s.extract (1 : Int).toNat s.size = ⟨l.toArray⟩ := extract_tailL s c l hd
    rw [if_pos (by omega), if_pos (by omega), if_pos (by omega), Option.bind_some, e, ByteArray.toList_eq, ByteArray.toList_eq]
    by_cases hc : c = 0
    · subst hc
      rw [if_pos (by rfl), if_pos (by omega), if_pos (by omega), Option.bind_some, e2, if_pos (by rfl)]
      rfl
    · rw [if_neg (by simp [hc]), Option.bind_some, if_neg (by simp [hc])]
/-- Whose orphan's name it is. -/
def orphanV (s : ByteArray) : Int × Bool :=
  match s.data.toList with
  | [] => (0, false)
  | c :: t => if c = 0 then match Lib.atoiAll t with
    | .ok n => if 1 ≤ n ∧ n ≤ 1099511627776 ∧ 0 :: Lib.itoa n = s.data.toList then (n, true) else (0, false)
    | _ => (0, false)
   else (0, false)
theorem orphanV_other (s : ByteArray) (h : ¬ s.data.toList.head? = some 0) : orphanV s = (0, false) := by
  unfold orphanV
  split
  · rfl
  · next c t he => rw [if_neg (fun e => h (by rw [he, e]; rfl))]
theorem orphanV_bad (s : ByteArray) (h : s.data.toList.head? = some 0) (hb : ∀ n, Lib.atoiAll s.data.toList.tail ≠ .ok n) : orphanV s = (0, false) := by
  unfold orphanV
  split
  · rfl
  · next c t he =>
    rw [he] at hb
    split
    · split
      · next n hn => exact absurd hn (hb n)
      · rfl
    · rfl
theorem orphanV_ok (s : ByteArray) (n : Int) (h : s.data.toList.head? = some 0) (hb : Lib.atoiAll s.data.toList.tail = .ok n) : orphanV s = if 1 ≤ n ∧ n ≤ 1099511627776 ∧ 0 :: Lib.itoa n = s.data.toList then (n, true) else (0, false) := by
  unfold orphanV
  split
  · next he => rw [he] at h; cases h
  · next c t he =>
    rw [he] at hb h
    rw [if_pos (Option.some.inj h)]
    simp only [List.tail_cons] at hb
    rw [hb, he]
def path_OrphanOf.f (a0 : ByteArray) : Option (Int × Bool) := if a0.size ≤ 281474976710656 then some (orphanV a0) else none
theorem orphan_small (n : Int) (h : ¬ (1 ≤ n ∧ n ≤ 1099511627776)) : path_Orphan.f n = some ((⟨#[]⟩ : ByteArray), 1) := by
  unfold path_Orphan.f
  by_cases h1 : n < 1
  · rw [if_pos h1]
  · rw [if_neg h1, if_pos (by omega)]
theorem itoa_len (n : Int) (h : 1 ≤ n ∧ n ≤ 1099511627776) : (Lib.itoa n).length ≤ 100 := by
  exact Nat.le_trans (Lib.itoa_length_le n (by omega) (by omega)) (by omega)
theorem orphan_text (n : Int) (h : 1 ≤ n ∧ n ≤ 1099511627776) : path_Orphan.f n = some ((⟨(0 :: Lib.itoa n).toArray⟩ : ByteArray), 0) := by
  unfold path_Orphan.f strconv_Itoa.f
  have hl := itoa_len n h
  have hz : (⟨(Lib.itoa n).toArray⟩ : ByteArray).size = (Lib.itoa n).length := by show (Lib.itoa n).toArray.size = _; simp
  rw [if_neg (by omega), if_neg (by omega), if_pos (by omega), Option.bind_some, hz, if_pos (by omega)]
  congr 2
set_option maxHeartbeats 4000000 in
set_option maxRecDepth 100000 in
theorem path_OrphanOf.calls (a0 : ByteArray) (r1 : Int) (r2 : Bool) (w : World) (hT : Tabs w) (h : path_OrphanOf.f a0 = some (r1, r2)) :
    Calls Tryd.prog 18 #[.string a0] w fun e w' => e = .returned (.tuple #[.int .i64 r1, .bool r2]) ∧ Below w.heap.size w w' := by
  unfold path_OrphanOf.f at h
  split at h
  case isFalse => cases h
  case isTrue hs =>
  have hv := Option.some.inj h
  clear h
  have hL : a0.data.toList.length = a0.size := by rw [Array.length_toList]; rfl
  have hcp := cutPrefix_zero a0
  have hb0 := Aside0.mk (Below.refl w.heap.size w)
  by_cases hh : a0.data.toList.head? = some 0
  · rw [if_pos hh] at hcp
    generalize hdg : (⟨a0.data.toList.tail.toArray⟩ : ByteArray) = dg at *
    have hds : dg.size ≤ 281474976710656 := by
      rw [← hdg]
      show a0.data.toList.tail.toArray.size ≤ _
      rw [List.size_toArray, List.length_tail, hL]; omega
    have hdl : dg.data.toList = a0.data.toList.tail := by rw [← hdg]
    by_cases hok : ∃ n, Lib.atoiAll dg.data.toList = .ok n
    · obtain ⟨n, hn⟩ := hok
      have hv2 := orphanV_ok a0 n hh (by rw [← hdl]; exact hn)
      rw [hv] at hv2
      by_cases hr : 1 ≤ n ∧ n ≤ 1099511627776
      · have ho := orphan_text n hr
        generalize hox : (⟨(0 :: Lib.itoa n).toArray⟩ : ByteArray) = ox at *
        have hod : ox.data.toList = 0 :: Lib.itoa n := by rw [← hox]
        rw [← hod] at hv2
        have HC := Aside0.mk hcp
        have HA := Aside0.mk hn
        have HO := Aside0.mk ho
        by_cases he : ox.data.toList = a0.data.toList
        · rw [if_pos ⟨hr.1, hr.2, he⟩] at hv2
          obtain ⟨rfl, rfl⟩ : r1 = n ∧ r2 = true := by simpa using hv2
          have hq : (ox.toList == a0.toList) = true := by rw [ByteArray.toList_eq, ByteArray.toList_eq]; simp [he]
          clear hcp hn ho hod hox he hv2 hv hh hL hdl hdg hr
          go_enter Tryd.func18, Tryd.ntmps18
          go_wp2_with (first
            | (go_at_call 35; refine (strings_CutPrefix.calls a0 _ _ _ _ HC.out).mono ?_; rintro e w1 ⟨rfl, ⟨nd, rfl⟩⟩)
            | (go_at_call 36; refine (atoi_ok dg _ HA.out hds _).mono ?_; rintro e w2 ⟨rfl, hb2⟩; have HB2 := Aside0.mk ((pw_below_drewN hb0.out _).trans hb2); clear hb2)
            | (go_at_call 16; refine (path_Orphan.calls _ _ _ _ (Tabs.on hT HB2.out) HO.out).mono ?_; rintro e w3 ⟨rfl, hb3⟩; have HB3 := Aside0.mk (HB2.out.trans (hb3.mono HB2.out.size)); clear hb3))
          go_ret2
          exact ⟨rfl, HB3.out⟩
        · rw [if_neg (fun h => he h.2.2)] at hv2
          obtain ⟨rfl, rfl⟩ : r1 = 0 ∧ r2 = false := by simpa using hv2
          have hq : (ox.toList == a0.toList) = false := by rw [ByteArray.toList_eq, ByteArray.toList_eq]; exact beq_eq_false_iff_ne.mpr he
          clear hcp hn ho hod hox he hv2 hv hh hL hdl hdg hr
          go_enter Tryd.func18, Tryd.ntmps18
          go_wp2_with (first
            | (go_at_call 35; refine (strings_CutPrefix.calls a0 _ _ _ _ HC.out).mono ?_; rintro e w1 ⟨rfl, ⟨nd, rfl⟩⟩)
            | (go_at_call 36; refine (atoi_ok dg _ HA.out hds _).mono ?_; rintro e w2 ⟨rfl, hb2⟩; have HB2 := Aside0.mk ((pw_below_drewN hb0.out _).trans hb2); clear hb2)
            | (go_at_call 16; refine (path_Orphan.calls _ _ _ _ (Tabs.on hT HB2.out) HO.out).mono ?_; rintro e w3 ⟨rfl, hb3⟩; have HB3 := Aside0.mk (HB2.out.trans (hb3.mono HB2.out.size)); clear hb3))
          go_ret2
          exact ⟨rfl, HB3.out⟩
      · rw [if_neg (fun h => hr ⟨h.1, h.2.1⟩)] at hv2
        obtain ⟨rfl, rfl⟩ : r1 = 0 ∧ r2 = false := by simpa using hv2
        have HC := Aside0.mk hcp
        have HA := Aside0.mk hn
        have HO := Aside0.mk (orphan_small n hr)
        clear hcp hn hv2 hv hh hL hdl hdg hr
        go_enter Tryd.func18, Tryd.ntmps18
        go_wp2_with (first
          | (go_at_call 35; refine (strings_CutPrefix.calls a0 _ _ _ _ HC.out).mono ?_; rintro e w1 ⟨rfl, ⟨nd, rfl⟩⟩)
          | (go_at_call 36; refine (atoi_ok dg _ HA.out hds _).mono ?_; rintro e w2 ⟨rfl, hb2⟩; have HB2 := Aside0.mk ((pw_below_drewN hb0.out _).trans hb2); clear hb2)
          | (go_at_call 16; refine (path_Orphan.calls _ _ _ _ (Tabs.on hT HB2.out) HO.out).mono ?_; rintro e w3 ⟨rfl, hb3⟩; have HB3 := Aside0.mk (HB2.out.trans (hb3.mono HB2.out.size)); clear hb3))
        go_ret2
        exact ⟨rfl, HB3.out⟩
    · have hn : ∀ n, Lib.atoiAll dg.data.toList ≠ .ok n := fun n h => hok ⟨n, h⟩
      have hv2 := orphanV_bad a0 hh (by rw [← hdl]; exact hn)
      rw [hv] at hv2
      obtain ⟨rfl, rfl⟩ : r1 = 0 ∧ r2 = false := by simpa using hv2
      have HC := Aside0.mk hcp
      have HA := Aside0.mk hn
      clear hcp hn hv2 hv hh hL hdl hdg hok
      go_enter Tryd.func18, Tryd.ntmps18
      go_wp2_with (first
        | (go_at_call 35; refine (strings_CutPrefix.calls a0 _ _ _ _ HC.out).mono ?_; rintro e w1 ⟨rfl, ⟨nd, rfl⟩⟩)
        | (go_at_call 36; refine (atoi_bad dg HA.out hds _ (Tabs.on hT (pw_below_drewN hb0.out _))).mono ?_; rintro e w2 ⟨v_, t_, p_, rfl, hb2⟩; have HB2 := Aside0.mk ((pw_below_drewN hb0.out _).trans hb2); clear hb2)
        | (go_at_call 16; refine (path_Orphan.calls _ _ _ _ (Tabs.on hT HB2.out) HO.out).mono ?_; rintro e w3 ⟨rfl, hb3⟩; have HB3 := Aside0.mk (HB2.out.trans (hb3.mono HB2.out.size)); clear hb3))
      go_ret2
      exact ⟨rfl, HB2.out⟩
  · rw [if_neg hh] at hcp
    have hv2 := orphanV_other a0 hh
    rw [hv] at hv2
    obtain ⟨rfl, rfl⟩ : r1 = 0 ∧ r2 = false := by simpa using hv2
    have HC := Aside0.mk hcp
    by_cases hok : ∃ n, Lib.atoiAll a0.data.toList = .ok n
    · obtain ⟨n, hn⟩ := hok
      have HA := Aside0.mk hn
      clear hcp hn hv2 hv hh hL
      go_enter Tryd.func18, Tryd.ntmps18
      go_wp2_with (first
        | (go_at_call 35; refine (strings_CutPrefix.calls a0 _ _ _ _ HC.out).mono ?_; rintro e w1 ⟨rfl, ⟨nd, rfl⟩⟩)
        | (go_at_call 36; refine (atoi_ok a0 _ HA.out hs _).mono ?_; rintro e w2 ⟨rfl, hb2⟩; have HB2 := Aside0.mk ((pw_below_drewN hb0.out _).trans hb2); clear hb2)
        | (go_at_call 16; refine (path_Orphan.calls _ _ _ _ (Tabs.on hT HB2.out) HO.out).mono ?_; rintro e w3 ⟨rfl, hb3⟩; have HB3 := Aside0.mk (HB2.out.trans (hb3.mono HB2.out.size)); clear hb3))
      go_ret2
      exact ⟨rfl, HB2.out⟩
    · have hn : ∀ n, Lib.atoiAll a0.data.toList ≠ .ok n := fun n h => hok ⟨n, h⟩
      have HA := Aside0.mk hn
      clear hcp hn hv2 hv hh hL hok
      go_enter Tryd.func18, Tryd.ntmps18
      go_wp2_with (first
        | (go_at_call 35; refine (strings_CutPrefix.calls a0 _ _ _ _ HC.out).mono ?_; rintro e w1 ⟨rfl, ⟨nd, rfl⟩⟩)
        | (go_at_call 36; refine (atoi_bad a0 HA.out hs _ (Tabs.on hT (pw_below_drewN hb0.out _))).mono ?_; rintro e w2 ⟨v_, t_, p_, rfl, hb2⟩; have HB2 := Aside0.mk ((pw_below_drewN hb0.out _).trans hb2); clear hb2)
        | (go_at_call 16; refine (path_Orphan.calls _ _ _ _ (Tabs.on hT HB2.out) HO.out).mono ?_; rintro e w3 ⟨rfl, hb3⟩; have HB3 := Aside0.mk (HB2.out.trans (hb3.mono HB2.out.size)); clear hb3))
      go_ret2
      exact ⟨rfl, HB2.out⟩


end Go.Proofs.YtkfmilfmpmmpkaaDoor.PB
