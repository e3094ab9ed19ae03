-- WRITTEN BY a program of this session (pp.sh)
import Derived.Test.YtofdpgcnconibaaGreatDoorPAx0
import Derived.Test.YtofdpgcnconibaaGreatDoorPAx22
set_option linter.unusedVariables false
set_option linter.unusedSimpArgs false
namespace Go.Proofs.YtofdpgcnconibaaGreatDoor.PA
open Go.RowKit Go.Proofs.YtofdpgcnconibaaGreatDoorW.PrintWords Go.Proofs.YtofdpgcnconibaaGreatDoorW.PrintLast Go.Proofs.YtofdpgcnconibaaGreatDoorW.PrintMore Go.Proofs.YtofdpgcnconibaaGreatDoor.Plain
attribute [local go_sem] max2_int min2_int max_two min_two max_three min_three max_four min_four binOp_leq_s binOp_gtr_s binOp_geq_s lit_byte   -- for this text's walks alone
set_option linter.unusedVariables false
set_option linter.unusedSimpArgs false

/-! ### pack_Reader_Short: function 54, by hand -/
def pack_Reader_Short.f (s : ByteArray) (at_ err : Int) : Option (Int × ByteArray × Int × Int) :=
  if err = 0 then (if 0 ≤ at_ ∧ at_ ≤ s.size ∧ s.size ≤ 9223372036854775000 then rsl s at_ 10 0 0 else none) else some (0, s, at_, err)

set_option maxHeartbeats 4000000 in
set_option maxRecDepth 100000 in
theorem pack_Reader_Short.wrong_calls (g B0 B1 : Nat) (e was at_ err : Int) (s : ByteArray) (w0 W : World) (hI : IsS125 w0 W g s at_ err)
    (HB0 : W.heap[B0]? = some (.cells #[.pointer (some ⟨g, 0, none⟩)] 87 (0, 0))) (HB1 : W.heap[B1]? = some (.cells #[.int .i64 was] 3 (0, 0))) :
    Calls Tryz.prog 72 #[.int .i64 e, .pointer (some ⟨B1, 0, none⟩), .pointer (some ⟨B0, 0, none⟩)] W fun r W' => r = .returned (.int .u64 0) ∧ W' = ((W.setCell ⟨g, 2, none⟩ (.int .i64 e)).setCell ⟨g, 1, none⟩ (.int .i64 was)).drew := by
  obtain ⟨HG, hg⟩ := hI
  have hc0 := cellS125_0 HG
  have hc1 := cellS125_1 HG
  have hc2 := cellS125_2 HG
  have hf0 := blk_frozen HG 0
  have hf1 := blk_frozen HG 1
  have hf2 := blk_frozen HG 2
  have hb0 := (blk_cell HB0 0).trans rfl
  have hb1 := (blk_cell HB1 0).trans rfl
  clear HG hg HB0 HB1
  go_enter Tryz.func72, Tryz.ntmps72
  go_wp2
  go_region
  all_goals go_wp2
  go_ret
  exact ⟨rfl, rfl⟩
set_option maxHeartbeats 400000 in
theorem pack_Reader_Short.fails_ok (g : Nat) (s : ByteArray) (at_ : Int) (w0 w : World) (hI : IsS125 w0 w g s at_ 0) :
    Calls Tryz.prog 70 #[.pointer (some ⟨g, 0, none⟩)] w fun e w' => e = .returned (.bool false) ∧ ∃ m, w' = w.drewN m := by
  obtain ⟨HG, hg⟩ := hI
  have hc2 := cellS125_2 HG
  have hf2 := blk_frozen HG 2
  clear HG hg
  go_enter Tryz.func70, Tryz.ntmps70
  go_wp2
  go_ret
  exact ⟨rfl, 0, rfl⟩

set_option maxHeartbeats 4000000 in
set_option maxRecDepth 100000 in
theorem pack_Reader_Short.short_loop (g : Nat) (s : ByteArray) (at_ : Int) (r1 : Int) (r2 : ByteArray) (r3 r4 : Int) (w0 w : World) (hI : IsS125 w0 w g s at_ 0) (hB : Below w0.heap.size w0 w)
   (h0 : 0 ≤ at_) (h1 : at_ ≤ s.size) (h2 : (s.size : Int) ≤ 9223372036854775000) 
   (h : rsl s at_ 10 0 0 = some (r1, r2, r3, r4)) :
    Calls Tryz.prog 54 #[.pointer (some ⟨g, 0, none⟩)] w fun e w' => e = .returned (.int .u64 r1) ∧ IsS125 w0 w' g r2 r3 r4 ∧ Below w0.heap.size w0 w' ∧ KeepBut w w' g none := by
  have HI0 := Aside0.mk hI
  have HK := Aside0.mk (KeepBut.refl w g none)
  have HL := Aside0.mk hB.size
  have HW0 := Aside0.mk hB.size
  have HB := Aside0.mk hB
  have H := Aside0.mk h
  obtain ⟨HG, hg⟩ := hI
  have hc0 := cellS125_0 HG
  have hc1 := cellS125_1 HG
  have hc2 := cellS125_2 HG
  have hf0 := blk_frozen HG 0
  have hf1 := blk_frozen HG 1
  have hf2 := blk_frozen HG 2
  have hlt := blk_lt HG
  have hne : g ≠ w.heap.size := by omega
  clear HG hg hB h
  go_enter Tryz.func54, Tryz.ntmps54
  go_wp2
  go_step3
  go_wp2_with (go_at_call 70; refine (pack_Reader_Short.fails_ok g s at_ w0 _ (HI0.out.alloc _)).mono ?_; rintro e w' ⟨rfl, m, rfl⟩)
  go_step3
  go_wp2
  go_loopg [3, 6] 10 (fun kq v3 v6 w' => ∃ (n i : Int), v3 = .int .u64 n ∧ v6 = .int .i64 i ∧ Aside0 (rsl s at_ kq i n = some (r1, r2, r3, r4)) ∧ Aside0 (kq ≤ 10) ∧ Aside0 (0 ≤ i ∧ i = 10 - kq ∧ at_ + i ≤ s.size ∧ 0 ≤ n ∧ n < 128 ^ i.toNat) ∧ Aside0 (IsS125 w0 w' g s (at_ + i) 0) ∧ Aside0 (KeepBut w w' g none) ∧ Aside0 (Below w0.heap.size w0 w')
     ∧ Aside0 (w'.heap[w.heap.size]? = some (.cells #[.pointer (some ⟨g, 0, none⟩)] 87 (0, 0))) ∧ Aside0 (w'.heap[w.heap.size + 1]? = some (.cells #[.int .i64 at_] 3 (0, 0))))
  case atStart => exact ⟨0, 0, rfl, rfl, H, ⟨by omega⟩, ⟨by simp; omega⟩, ⟨by rw [Int.add_zero]; exact ((HI0.out.alloc _).drewN m).alloc _⟩, ⟨keep_alloc (keep_drewN (keep_alloc HK.out _) m) _⟩, ⟨below_alloc (pw_below_drewN (below_alloc HB.out _) m) _⟩, ⟨blk_alloc (blk_drewN (by simpa using heap_alloc_new w _) m) _⟩, ⟨by simpa using heap_alloc_new ((w.alloc (Obj.cells #[Value.pointer (some { block := g, off := 0 })] 87)).drewN m) (Obj.cells #[Value.int IntKind.i64 at_] 3)⟩⟩
  case round =>
    clear H hc0 hc1 hc2 hf0 hf1 hf2 HI0 HK HB
    obtain ⟨n, i, rfl, rfl, HA, HK1, HBD, HI0, HK, HB, HB0, HB1⟩ := hrel
    cases gk with
    | zero => exact absurd HA.out (by simp [rsl])
    | succ k1 =>
      have H := HA.out
      clear HA
      simp only [rsl] at H
      obtain ⟨HG, hg⟩ := HI0.out
      have hc0 := cellS125_0 HG
      have hc1 := cellS125_1 HG
      have hc2 := cellS125_2 HG
      have hf0 := blk_frozen HG 0
      have hf1 := blk_frozen HG 1
      have hf2 := blk_frozen HG 2
      have hb0 := (blk_cell HB0.out 0).trans rfl
      have hb1 := (blk_cell HB1.out 0).trans rfl
      clear HG hg
      obtain ⟨hi0, hi1, hi2, hn0, hn1⟩ := HBD.out
      have HN1 := Aside0.mk hn1
      clear hn1
      by_cases c1 : at_ + i = (s.size : Int)
      · have e1 : (at_ + i == (s.size : Int)) = true := beq_iff_eq.mpr c1
        rw [if_pos c1] at H
        obtain ⟨rfl, rfl, rfl, rfl⟩ : 0 = r1 ∧ s = r2 ∧ at_ = r3 ∧ 20 = r4 := by simpa using H
        clear H c1
        have hi3 := Aside0.mk hi1
        clear hi1
        go_wp2
        go_quiet (fail)
        go_wp2_with (go_at_call 72; refine (pack_Reader_Short.wrong_calls g w.heap.size (w.heap.size + 1) 20 at_ _ _ s w0 _ (HI0.out.drewN _) HB0.out HB1.out).mono ?_; rintro e w' ⟨rfl, rfl⟩)
        rw [Exit.noGoto_ret]
        go_ret
        exact ⟨rfl, ((((HI0.out.drewN _).set_2 _).set_1 _).drew), below_drew1 (below_set (below_set (pw_below_drewN HB.out _) HI0.out.ge) HI0.out.ge), keep_drew (((keep_drewN HK.out _).set_ _ _).set_ _ _)⟩
      · have e1 : (at_ + i == (s.size : Int)) = false := beq_eq_false_iff_ne.mpr c1
        rw [if_neg c1] at H
        have hlt2 : at_ + i < (s.size : Int) := by omega
        have hlt3 : 0 ≤ at_ + i := by omega
        clear c1
        have hi3 := Aside0.mk hi1
        clear hi1
        have hx := bt_at s (at_ + i)
        have hbr := bt_range s (at_ + i)
        go_wp2
        go_quiet (fail)
        go_wp2
        go_quiet (fail)
        have hi1' : i ≤ 9 := by have := hi3.out; omega
        have h7 : 0 ≤ 7 * i := by omega
        have hacc0 : (i = 9 → bt s (at_ + i) ≤ 1) → Go.bits .or .u64 n (IntKind.u64.wrap (IntKind.u64.wrap (bits BinOp.and IntKind.u8 (bt s (at_ + i)) 127) * 2 ^ (7 * i).toNat)) = acc7 n (bt s (at_ + i)) i := by
          intro h9
          have e := acc7_of n (bt s (at_ + i)) i hi0 hi1' hn0 HN1.out hbr.1 (by omega) h9
          rw [← e, and127 _ hbr.1 (by omega), wraps_u64 (bt s (at_ + i) % 128) (by omega) (by omega)]
          unfold shl
          rw [Nat.min_eq_left (by show _ ≤ 64; omega)]
        generalize hbt : bt s (at_ + i) = b at *
        have HBT := Aside0.mk hbt
        have HACC := Aside0.mk hacc0
        clear hbt hacc0
        have hlt7 := Aside0.mk (acc7_lt n b i hi0 hn0 HN1.out)
        by_cases c2 : (i = 9 ∧ 1 < b) ∨ (b = 0 ∧ 0 < i)
        · rw [if_pos c2] at H
          obtain ⟨rfl, rfl, rfl, rfl⟩ : 0 = r1 ∧ s = r2 ∧ at_ = r3 ∧ 21 = r4 := by simpa using H
          clear H
          have C2 := Aside0.mk c2
          clear c2
          by_cases c9 : i = 9
          · have e9 : (i == 9) = true := beq_iff_eq.mpr c9
            have C9 := Aside0.mk c9
            clear c9
            go_wp2_with (go_at_call 72; refine (pack_Reader_Short.wrong_calls g w.heap.size (w.heap.size + 1) 21 at_ _ _ s w0 _ ((HI0.out.drewN _).set_1 _) (blk_far (blk_drewN HB0.out _) (by show w.heap.size ≠ g; omega) _) (blk_far (blk_drewN HB1.out _) (by show w.heap.size + 1 ≠ g; omega) _)).mono ?_; rintro e w' ⟨rfl, rfl⟩)
            all_goals first | (exfalso; have := C2.out; have := C9.out; omega) | (rw [Exit.noGoto_ret]; go_ret; exact ⟨rfl, (((HI0.out.drewN _).set_1 _).set_2 _).set_1 _ |>.drew, below_drew1 (below_set (below_set (below_set (pw_below_drewN HB.out _) HI0.out.ge) HI0.out.ge) HI0.out.ge), keep_drew ((((keep_drewN HK.out _).set_ _ _).set_ _ _).set_ _ _)⟩)
          · have e9 : (i == 9) = false := beq_eq_false_iff_ne.mpr c9
            have C9 := Aside0.mk c9
            clear c9
            go_wp2_with (go_at_call 72; refine (pack_Reader_Short.wrong_calls g w.heap.size (w.heap.size + 1) 21 at_ _ _ s w0 _ ((HI0.out.drewN _).set_1 _) (blk_far (blk_drewN HB0.out _) (by show w.heap.size ≠ g; omega) _) (blk_far (blk_drewN HB1.out _) (by show w.heap.size + 1 ≠ g; omega) _)).mono ?_; rintro e w' ⟨rfl, rfl⟩)
            all_goals first | (exfalso; have := C2.out; have := C9.out; omega) | (rw [Exit.noGoto_ret]; go_ret; exact ⟨rfl, (((HI0.out.drewN _).set_1 _).set_2 _).set_1 _ |>.drew, below_drew1 (below_set (below_set (below_set (pw_below_drewN HB.out _) HI0.out.ge) HI0.out.ge) HI0.out.ge), keep_drew ((((keep_drewN HK.out _).set_ _ _).set_ _ _).set_ _ _)⟩)
        · rw [if_neg c2] at H
          have C2 := Aside0.mk c2
          clear c2
          have h9 : i = 9 → b ≤ 1 := by intro h; have := C2.out; omega
          have hacc := HACC.out h9
          clear HACC h9
          by_cases c3 : b < 128
          · rw [if_pos c3] at H
            obtain ⟨rfl, rfl, rfl, rfl⟩ : acc7 n b i = r1 ∧ s = r2 ∧ at_ + i + 1 = r3 ∧ 0 = r4 := by simpa using H
            clear H
            by_cases c9 : i = 9
            · have e9 : (i == 9) = true := beq_iff_eq.mpr c9
              have C9 := Aside0.mk c9
              clear c9
              go_wp2_with (go_at_call 72; refine (pack_Reader_Short.wrong_calls g w.heap.size (w.heap.size + 1) 21 at_ _ _ s w0 _ ((HI0.out.drewN _).set_1 _) (blk_far (blk_drewN HB0.out _) (by show w.heap.size ≠ g; omega) _) (blk_far (blk_drewN HB1.out _) (by show w.heap.size + 1 ≠ g; omega) _)).mono ?_; rintro e w' ⟨rfl, rfl⟩)
              all_goals first | (exfalso; have := C2.out; have := C9.out; omega) | (rw [Exit.noGoto_ret]; (try (have hb0 : b = 0 := by assumption); (try subst hb0)); go_ret; exact ⟨rfl, (HI0.out.drewN _).set_1 _, below_set (pw_below_drewN HB.out _) HI0.out.ge, (keep_drewN HK.out _).set_ _ _⟩)
            · have e9 : (i == 9) = false := beq_eq_false_iff_ne.mpr c9
              have C9 := Aside0.mk c9
              clear c9
              go_wp2_with (go_at_call 72; refine (pack_Reader_Short.wrong_calls g w.heap.size (w.heap.size + 1) 21 at_ _ _ s w0 _ ((HI0.out.drewN _).set_1 _) (blk_far (blk_drewN HB0.out _) (by show w.heap.size ≠ g; omega) _) (blk_far (blk_drewN HB1.out _) (by show w.heap.size + 1 ≠ g; omega) _)).mono ?_; rintro e w' ⟨rfl, rfl⟩)
              all_goals first | (exfalso; have := C2.out; have := C9.out; omega) | (rw [Exit.noGoto_ret]; (try (have hb0 : b = 0 := by assumption); (try subst hb0)); go_ret; exact ⟨rfl, (HI0.out.drewN _).set_1 _, below_set (pw_below_drewN HB.out _) HI0.out.ge, (keep_drewN HK.out _).set_ _ _⟩)
          · rw [if_neg c3] at H
            have H' := Aside0.mk H
            clear H
            by_cases c9 : i = 9
            · exfalso; have := C2.out; omega
            · have e9 : (i == 9) = false := beq_eq_false_iff_ne.mpr c9
              have C9 := Aside0.mk c9
              clear c9
              go_wp2_with (go_at_call 72; refine (pack_Reader_Short.wrong_calls g w.heap.size (w.heap.size + 1) 21 at_ _ _ s w0 _ ((HI0.out.drewN _).set_1 _) (blk_far (blk_drewN HB0.out _) (by show w.heap.size ≠ g; omega) _) (blk_far (blk_drewN HB1.out _) (by show w.heap.size + 1 ≠ g; omega) _)).mono ?_; rintro e w' ⟨rfl, rfl⟩)
              go_roundg k1
              case measure => have := HK1.out; omega
              case rel => exact ⟨acc7 n b i, i + 1, rfl, rfl, H', ⟨by have := HK1.out; omega⟩, ⟨by have := hi3.out; have := hlt7.out; omega⟩, ⟨by rw [← Int.add_assoc]; exact (HI0.out.drewN _).set_1 _⟩, ⟨(keep_drewN HK.out _).set_ _ _⟩, ⟨below_set (pw_below_drewN HB.out _) HI0.out.ge⟩, ⟨blk_far (blk_drewN HB0.out _) (by show w.heap.size ≠ g; omega) _⟩, ⟨blk_far (blk_drewN HB1.out _) (by show w.heap.size + 1 ≠ g; omega) _⟩⟩

set_option maxHeartbeats 400000 in
theorem pack_Reader_Short.fails_no (g : Nat) (s : ByteArray) (at_ err : Int) (w0 w : World) (he : (err != 0) = true) (hI : IsS125 w0 w g s at_ err) :
    Calls Tryz.prog 70 #[.pointer (some ⟨g, 0, none⟩)] w fun e w' => e = .returned (.bool true) ∧ ∃ m, w' = w.drewN m := by
  obtain ⟨HG, hg⟩ := hI
  have hc2 := cellS125_2 HG
  have hf2 := blk_frozen HG 2
  clear HG hg
  go_enter Tryz.func70, Tryz.ntmps70
  go_wp2
  go_ret
  exact ⟨rfl, 0, rfl⟩
set_option maxHeartbeats 4000000 in
set_option maxRecDepth 100000 in
theorem pack_Reader_Short.calls (g : Nat) (s0_0 : ByteArray) (s0_1 s0_2 : Int) (r1 : Int) (r2 : ByteArray) (r3 r4 : Int) (w0 w : World) (hI : IsS125 w0 w g s0_0 s0_1 s0_2) (hB : Below w0.heap.size w0 w)
   (h : pack_Reader_Short.f s0_0 s0_1 s0_2 = some (r1, r2, r3, r4)) :
    Calls Tryz.prog 54 #[.pointer (some ⟨g, 0, none⟩)] w fun e w' => e = .returned (.int .u64 r1) ∧ IsS125 w0 w' g r2 r3 r4 ∧ Below w0.heap.size w0 w' ∧ KeepBut w w' g none := by
  unfold pack_Reader_Short.f at h
  by_cases he : s0_2 = 0
  · subst he
    rw [if_pos rfl] at h
    split at h
    case isFalse => cases h
    case isTrue hh => exact pack_Reader_Short.short_loop g s0_0 s0_1 r1 r2 r3 r4 w0 w hI hB hh.1 hh.2.1 (by omega) h
  · rw [if_neg he] at h
    obtain ⟨rfl, rfl, rfl, rfl⟩ : 0 = r1 ∧ s0_0 = r2 ∧ s0_1 = r3 ∧ s0_2 = r4 := by simpa using h
    clear h
    have e0 : (s0_2 != 0) = true := bne_iff_ne.mpr he
    have HE := Aside0.mk e0
    have HI0 := Aside0.mk hI
    have HB := Aside0.mk hB
    clear hI hB he e0
    go_enter Tryz.func54, Tryz.ntmps54
    go_wp2
    go_step3
    go_wp2_with (go_at_call 70; refine (pack_Reader_Short.fails_no g s0_0 s0_1 s0_2 w0 _ HE.out (HI0.out.alloc _)).mono ?_; rintro e w' ⟨rfl, m, rfl⟩)
    rw [Exit.noGoto_ret]
    go_ret
    exact ⟨rfl, (HI0.out.alloc _).drewN _, pw_below_drewN (below_alloc HB.out _) _, keep_drewN (keep_alloc (KeepBut.refl w g none) _) _⟩


/-! ### pack_Reader_take: function 71 -/
def pack_Reader_take.f (s0_0 : ByteArray) (s0_1 : Int) (s0_2 : Int) (a1 : Int) : Option (ByteArray × ByteArray × Int × Int) := (pack_Reader_fails.f s0_0 s0_1 s0_2).bind fun bt236 => (if bt236.1 = true then (some ((⟨#[]⟩ : ByteArray), bt236.2.1, bt236.2.2.1, bt236.2.2.2)) else (if a1 > (wrap64 ((bt236.2.1.size : Int) - bt236.2.2.1)) then (some ((⟨#[]⟩ : ByteArray), bt236.2.1, bt236.2.2.1, 20)) else (if 0 ≤ (wrap64 ((wrap64 (bt236.2.2.1 + a1)) - a1)) then (if (wrap64 ((wrap64 (bt236.2.2.1 + a1)) - a1)) ≤ (wrap64 (bt236.2.2.1 + a1)) then (if (wrap64 (bt236.2.2.1 + a1)) ≤ (bt236.2.1.size : Int) then (some (bt236.2.1.extract ((wrap64 ((wrap64 (bt236.2.2.1 + a1)) - a1)) : Int).toNat ((wrap64 (bt236.2.2.1 + a1)) : Int).toNat, bt236.2.1, wrap64 (bt236.2.2.1 + a1), bt236.2.2.2)) else (none)) else (none)) else (none))))
set_option maxHeartbeats 8000000 in
set_option maxRecDepth 100000 in
theorem pack_Reader_take.calls (g : Nat) (s0_0 : ByteArray) (s0_1 : Int) (s0_2 : Int) (a1 : Int) (r1 : ByteArray) (r2 : ByteArray) (r3 : Int) (r4 : Int) (w0 w : World) (hI : IsS125 w0 w g s0_0 s0_1 s0_2) (hB : Below w0.heap.size w0 w) (h : pack_Reader_take.f s0_0 s0_1 s0_2 a1 = some (r1, r2, r3, r4)) :
  Calls Tryz.prog 71 #[.pointer (some ⟨g, 0, none⟩), .int .i64 a1] w fun e w' => e = .returned (.string r1) ∧ IsS125 w0 w' g r2 r3 r4 ∧ Below w0.heap.size w0 w' ∧ KeepBut w w' g none := by
 have HI0 := Aside0.mk hI
 have HK := Aside0.mk (KeepBut.refl w g none)
 have HL := Aside0.mk hB.size
 clear hI
 have HW0 := Aside0.mk hB.size
 have HB := Aside0.mk hB
 clear hB
 have H : ((pack_Reader_fails.f s0_0 s0_1 s0_2).bind fun bt236 => (if bt236.1 = true then (some ((⟨#[]⟩ : ByteArray), bt236.2.1, bt236.2.2.1, bt236.2.2.2)) else (if a1 > (wrap64 ((bt236.2.1.size : Int) - bt236.2.2.1)) then (some ((⟨#[]⟩ : ByteArray), bt236.2.1, bt236.2.2.1, 20)) else (if 0 ≤ (wrap64 ((wrap64 (bt236.2.2.1 + a1)) - a1)) then (if (wrap64 ((wrap64 (bt236.2.2.1 + a1)) - a1)) ≤ (wrap64 (bt236.2.2.1 + a1)) then (if (wrap64 (bt236.2.2.1 + a1)) ≤ (bt236.2.1.size : Int) then (some (bt236.2.1.extract ((wrap64 ((wrap64 (bt236.2.2.1 + a1)) - a1)) : Int).toNat ((wrap64 (bt236.2.2.1 + a1)) : Int).toNat, bt236.2.1, wrap64 (bt236.2.2.1 + a1), bt236.2.2.2)) else (none)) else (none)) else (none))))) = some (r1, r2, r3, r4) := h
 clear h
 replace H := Option.bind_eq_some_iff.mp H
 obtain ⟨⟨t236, t237, t238, t239⟩, A30, H⟩ := H
 replace H : (if t236 = true then (some ((⟨#[]⟩ : ByteArray), t237, t238, t239)) else (if a1 > (wrap64 ((t237.size : Int) - t238)) then (some ((⟨#[]⟩ : ByteArray), t237, t238, 20)) else (if 0 ≤ (wrap64 ((wrap64 (t238 + a1)) - a1)) then (if (wrap64 ((wrap64 (t238 + a1)) - a1)) ≤ (wrap64 (t238 + a1)) then (if (wrap64 (t238 + a1)) ≤ (t237.size : Int) then (some (t237.extract ((wrap64 ((wrap64 (t238 + a1)) - a1)) : Int).toNat ((wrap64 (t238 + a1)) : Int).toNat, t237, wrap64 (t238 + a1), t239)) else (none)) else (none)) else (none)))) = some (r1, r2, r3, r4) := H
 have A3 := Aside0.mk A30
 clear A30
 by_cases c4 : t236 = true
 ·subst c4
  have H1 : (some ((⟨#[]⟩ : ByteArray), t237, t238, t239)) = some (r1, r2, r3, r4) := by rw [if_pos rfl] at H; exact H
  clear H
  have H := H1
  clear H1
  simp only [Option.some.injEq, Prod.mk.injEq] at H
  obtain ⟨rfl, rfl, rfl, rfl⟩ := H
  go_enter Tryz.func71, Tryz.ntmps71
  go_wp2_with (first | (go_at_call 70; (with_reducible refine (pack_Reader_fails.calls g s0_0 s0_1 s0_2 true t237 t238 t239 w0 _ ?side1 ?side2 A3.out).mono ?_); (case side1 => repeat (((with_reducible (exact HI0.out))))); (case side2 => repeat (((with_reducible (exact HB.out))))); rintro e w5 ⟨rfl, hi, hb, hk⟩; have n0_ := Aside0.mk (KeepBut.trans (by repeat (((with_reducible (exact HK.out))))) hk (.inl rfl)); have n1_ := Aside0.mk (hb); have n2_ := Aside0.mk (hi); clear HK; clear HB; clear HI0; have HK := n0_; have HB := n1_; have HI0 := n2_; clear n0_ n1_ n2_; (try clear hb); (try clear hb2); (try clear hk); (try clear hi)))
  repeat (go_quiet (fail); try go_wp2_with (fail))
  go_ret
  exact ⟨by (rfl), by repeat (((with_reducible (exact HI0.out)))), by repeat (((with_reducible (exact HB.out)))), by repeat (((with_reducible (exact HK.out))))⟩
 ·replace c4 := Bool.eq_false_iff.mpr c4
  subst c4
  have H1 : (if a1 > (wrap64 ((t237.size : Int) - t238)) then (some ((⟨#[]⟩ : ByteArray), t237, t238, 20)) else (if 0 ≤ (wrap64 ((wrap64 (t238 + a1)) - a1)) then (if (wrap64 ((wrap64 (t238 + a1)) - a1)) ≤ (wrap64 (t238 + a1)) then (if (wrap64 (t238 + a1)) ≤ (t237.size : Int) then (some (t237.extract ((wrap64 ((wrap64 (t238 + a1)) - a1)) : Int).toNat ((wrap64 (t238 + a1)) : Int).toNat, t237, wrap64 (t238 + a1), t239)) else (none)) else (none)) else (none))) = some (r1, r2, r3, r4) := by rw [if_neg (show ¬ (false = true) by decide)] at H; exact H
  clear H
  have H := H1
  clear H1
  by_cases c6 : a1 > (wrap64 ((t237.size : Int) - t238))
  ·rw [if_pos c6] at H
   have c6b0 : decide ((wrap64 ((t237.size : Int) - t238)) < a1) = true := decide_eq_true c6
   clear c6
   simp only [Option.some.injEq, Prod.mk.injEq] at H
   obtain ⟨rfl, rfl, rfl, rfl⟩ := H
   go_enter Tryz.func71, Tryz.ntmps71
   go_wp2_with (first | (go_at_call 70; (with_reducible refine (pack_Reader_fails.calls g s0_0 s0_1 s0_2 false t237 t238 t239 w0 _ ?side1 ?side2 A3.out).mono ?_); (case side1 => repeat (((with_reducible (exact HI0.out))))); (case side2 => repeat (((with_reducible (exact HB.out))))); rintro e w7 ⟨rfl, hi, hb, hk⟩; have n0_ := Aside0.mk (KeepBut.trans (by repeat (((with_reducible (exact HK.out))))) hk (.inl rfl)); have n1_ := Aside0.mk (hb); have n2_ := Aside0.mk (hi); clear HK; clear HB; clear HI0; have HK := n0_; have HB := n1_; have HI0 := n2_; clear n0_ n1_ n2_; (try clear hb); (try clear hb2); (try clear hk); (try clear hi); obtain ⟨HGz8, hgz8⟩ := HI0.out; have hcz8_0 := cellS125_0 HGz8; have hcz8_1 := cellS125_1 HGz8; have hcz8_2 := cellS125_2 HGz8; have hfz8_0 := blk_frozen HGz8 0; have hfz8_1 := blk_frozen HGz8 1; have hfz8_2 := blk_frozen HGz8 2; clear HGz8 hgz8))
   repeat (go_quiet (fail); try go_wp2_with (fail))
   go_ret
   exact ⟨by (rfl), by repeat (((with_reducible first | exact HI0.out | apply IsS125.drewN | apply IsS125.set_2))), by repeat (((with_reducible first | exact HB.out | apply pw_below_drewN | refine below_set ?_ (IsS125.ge HI0.out)))), by repeat (((with_reducible first | exact HK.out | apply KeepBut.set_ | apply keep_drewN )))⟩
  ·rw [if_neg c6] at H
   have c6b0 : decide ((wrap64 ((t237.size : Int) - t238)) < a1) = false := decide_eq_false c6
   clear c6
   obtain ⟨ji9, hji9⟩ : ∃ j_ : Int, (wrap64 ((wrap64 (t238 + a1)) - a1)) = j_ := ⟨_, rfl⟩
   replace H : (if 0 ≤ (ji9) then (if (ji9) ≤ (wrap64 (t238 + a1)) then (if (wrap64 (t238 + a1)) ≤ (t237.size : Int) then (some (t237.extract ((ji9) : Int).toNat ((wrap64 (t238 + a1)) : Int).toNat, t237, wrap64 (t238 + a1), t239)) else (none)) else (none)) else (none)) = some (r1, r2, r3, r4) := by ((rw [hji9] at H; exact H))
   (try rw [hji9] at A3)
   have hji9w : (IntKind.i64.wrap ((wrap64 (t238 + a1)) - a1)) = ji9 := (i64_w _).trans hji9
   by_cases c10 : 0 ≤ (ji9)
   ·rw [if_pos c10] at H
    have c10b0 := eq_true c10
    have c10b1 : decide (0 ≤ (ji9)) = true := decide_eq_true c10
    clear c10
    by_cases c11 : (ji9) ≤ (wrap64 (t238 + a1))
    ·rw [if_pos c11] at H
     have c11b0 := eq_true c11
     have c11b1 : decide ((ji9) ≤ (wrap64 (t238 + a1))) = true := decide_eq_true c11
     by_cases c12 : (wrap64 (t238 + a1)) ≤ (t237.size : Int)
     ·rw [if_pos c12] at H
      have c12b0 := eq_true c12
      have c12b1 : decide ((wrap64 (t238 + a1)) ≤ (t237.size : Int)) = true := decide_eq_true c12
      simp only [Option.some.injEq, Prod.mk.injEq] at H
      obtain ⟨rfl, rfl, rfl, rfl⟩ := H
      go_enter Tryz.func71, Tryz.ntmps71
      go_wp2_with (first | (go_at_call 70; (with_reducible refine (pack_Reader_fails.calls g s0_0 s0_1 s0_2 false t237 t238 t239 w0 _ ?side1 ?side2 A3.out).mono ?_); (case side1 => repeat (((with_reducible (exact HI0.out))))); (case side2 => repeat (((with_reducible (exact HB.out))))); rintro e w13 ⟨rfl, hi, hb, hk⟩; have n0_ := Aside0.mk (KeepBut.trans (by repeat (((with_reducible (exact HK.out))))) hk (.inl rfl)); have n1_ := Aside0.mk (hb); have n2_ := Aside0.mk (hi); clear HK; clear HB; clear HI0; have HK := n0_; have HB := n1_; have HI0 := n2_; clear n0_ n1_ n2_; (try clear hb); (try clear hb2); (try clear hk); (try clear hi); obtain ⟨HGz14, hgz14⟩ := HI0.out; have hcz14_0 := cellS125_0 HGz14; have hcz14_1 := cellS125_1 HGz14; have hcz14_2 := cellS125_2 HGz14; have hfz14_0 := blk_frozen HGz14 0; have hfz14_1 := blk_frozen HGz14 1; have hfz14_2 := blk_frozen HGz14 2; clear HGz14 hgz14))
      repeat (go_quiet (fail); try go_wp2_with (fail))
      go_ret
      exact ⟨by (rfl), by repeat (((with_reducible first | exact HI0.out | apply IsS125.drewN | apply IsS125.set_1 ))), by repeat (((with_reducible first | exact HB.out | apply pw_below_drewN | refine below_set ?_ (IsS125.ge HI0.out)))), by repeat (((with_reducible first | exact HK.out | apply KeepBut.set_ | apply keep_drewN )))⟩
     ·rw [if_neg c12] at H
      exact absurd H (by simp)
    ·rw [if_neg c11] at H
     exact absurd H (by simp)
   ·rw [if_neg c10] at H
    exact absurd H (by simp)

end Go.Proofs.YtofdpgcnconibaaGreatDoor.PA
