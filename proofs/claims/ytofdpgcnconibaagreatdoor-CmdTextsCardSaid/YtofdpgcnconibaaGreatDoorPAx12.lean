-- WRITTEN BY a program of this session (pp.sh)
import Derived.Test.YtofdpgcnconibaaGreatDoorPAx0
import Derived.Test.YtofdpgcnconibaaGreatDoorPAx9
set_option linter.unusedVariables false
set_option linter.unusedSimpArgs false
namespace Go.Proofs.YtofdpgcnconibaaGreatDoor.PA
open Go.RowKit Go.Proofs.YtofdpgcnconibaaGreatDoorW.PrintWords Go.Proofs.YtofdpgcnconibaaGreatDoorW.PrintLast Go.Proofs.YtofdpgcnconibaaGreatDoorW.PrintMore Go.Proofs.YtofdpgcnconibaaGreatDoor.Plain
attribute [local go_sem] max2_int min2_int max_two min_two max_three min_three max_four min_four binOp_leq_s binOp_gtr_s binOp_geq_s lit_byte   -- for this text's walks alone
set_option linter.unusedVariables false
set_option linter.unusedSimpArgs false

/-! ### cmd_Text: function 16, by hand -/
-- cmd.text, cmd.Text: 16
namespace CmdText
theorem toList_len (s : ByteArray) : s.toList.length = s.size := by rw [ByteArray.toList_eq]; exact data_length s
theorem bld_lt {T e : TypeId} {B b : Nat} {bs : List Value} {w : World} (h : Lib.IsBuilderF T e B b bs w) : b < w.heap.size := h.elim (fun h => h.lt) (fun h => h.lt)
theorem bld_below {T e : TypeId} {B b : Nat} {bs : List Value} {W w2 : World} (h : Lib.IsBuilderF T e B b bs W) (hb : Below W.heap.size W w2) : Lib.IsBuilderF T e B b bs w2 := by
  have key : ∀ p, Lib.BuilderAtF T e B b p bs W → Lib.BuilderAtF T e B b p bs w2 := by
    intro p h
    have hlt := h.lt
    obtain ⟨hB, v, hk, hown, hne⟩ := h
    exact ⟨hB, v, (hb.block b hlt).trans hk, hown.kept (grown_of_below hb none) (by cases hv : v.ownBlock <;> simp), hne⟩
  exact h.elim (fun h => .inl (key _ h)) (fun h => .inr (key _ h))
theorem bld_more {T e : TypeId} {B b : Nat} {L : List UInt8} {s : ByteArray} {w : World} (h : Lib.BuilderAtF T e B b (.pointer (some ⟨b, 0, none⟩)) (Lib.byteCells L ++ Lib.strCells s) w) : Lib.IsBuilderF T e B b (Lib.byteCells (L ++ s.toList)) w := by
  refine .inr ?_
  rw [Lib.byteCells_append, ByteArray.toList_eq]
  exact h
set_option maxHeartbeats 2000000 in
set_option maxRecDepth 100000 in
/-- String, of one that holds nothing. -/
theorem string_nil (B b : Nat) (T : TypeId) (p : Value) (w : World) (hbk : w.heap[b]? = some (.cells #[p, .slice none 0 0] T (0, 0))) :
    Calls Tryz.prog 65 #[.pointer (some ⟨b, 0, none⟩)] w fun e w' => e = .returned (.string ⟨#[]⟩) ∧ Below B w w' := by
  have hUS : ∀ (W : World) (q : Option Addr), (Builtin.unsafeString_ #[131, 3] 9 #[.pointer q, .int .i64 0]).run Tryz.prog W = .ok (.string .empty) W := fun W q => Lib.run_unsafeString_none W _ _ _ q
  have c1 : w.drew.cell? ⟨b, 1, none⟩ = some (.slice none 0 0) := by
    have : w.drew.heap[b]? = some (.cells #[p, .slice none 0 0] T (0, 0)) := hbk
    rw [Lib.cell_of_heap this]; rfl
  have hSD : (Builtin.unsafeSliceData_ #[61] 131 #[.slice none 0 0]).run Tryz.prog w.drew = .ok (.pointer none) w.drew := rfl
  go_enter Tryz.func65, Tryz.ntmps65
  go_wp2
  go_region
  all_goals (go_wp2; go_ret; exact ⟨rfl, Below.drew (Below.refl B w)⟩)
theorem drop_cons (l : List S23) (j : Nat) (hj : j < l.length) : l.drop j = rd_T23 l (j : Int) :: l.drop (j + 1) := by
  rw [List.drop_eq_getElem_cons hj]
  unfold rd_T23
  rw [Int.toNat_natCast, List.getD_eq_getElem?_getD, List.getElem?_eq_getElem hj]; rfl
end CmdText
/-- The records of commands from number i on, behind those that are there; the error, and its record. -/
def cmd_text.g (k : Nat) : List S23 → Int → List UInt8 → Option (ByteArray × Option (Int × Int))
  | [], _, L => some (⟨L.toArray⟩, none)
  | x :: r, i, L => (cmd_encode.f k x.f0 x.f1 x.f2 x.f3 x.f4 x.f5).bind fun q =>
    match q.2 with
    | some c => if c = 190 then some (⟨#[]⟩, some (c, i)) else none
    | none => if 0 < q.1.size ∧ L.length + q.1.size ≤ 100000000000000 then cmd_text.g k r (i + 1) (L ++ q.1.toList) else none
def cmd_Text.f (k : Nat) (l : List S23) : Option (ByteArray × Int × Int × Int) :=
  if l.length ≤ 1000000000 then (cmd_text.g k l 0 []).bind fun q => some (q.1, (TellR.toldRec q.2).1, (TellR.toldRec q.2).2.1, (TellR.toldRec q.2).2.2) else none
/-- What becomes of a builder: its bytes are these; what was there stands. -/
def cmd_text.Out (B b : Nat) (L : List UInt8) (w w' : World) : Prop := Lib.IsBuilderF 101 5 B b (Lib.byteCells L) w' ∧ Below B w w'
set_option maxHeartbeats 8000000 in
set_option maxRecDepth 100000 in
theorem cmd_text.calls (k : Nat) (A0 : Option Addr) (c0 : Nat) (l0 : List S23) (r1 : ByteArray) (r2 : Option (Int × Int)) (w : World) (hT : Tabs w) (hr0 : Kd.C k23 w A0 l0.length l0) (hl : l0.length ≤ 1000000000) (h : cmd_text.g k l0 0 [] = some (r1, r2)) :
    Calls Tryz.prog 32 #[.slice A0 l0.length c0] w fun e w' => ∃ v, e = .returned (.tuple #[.string r1, v]) ∧ TellR.ErrR w' v r2 ∧ Below w.heap.size w w' := by
  have hu := Tryz.underlying23
  have HR0 := Aside0.mk hr0
  have HL := Aside0.mk hl
  have HH := Aside0.mk h
  have XB := Aside0.mk (show (w.alloc (.cells #[.pointer none, .slice none 0 0] 101)).heap[w.heap.size]? = some (.cells #[.pointer none, .slice none 0 0] 101 (0, 0)) by simpa using heap_alloc_new w _)
  have HI := Aside0.mk (show cmd_text.Out w.heap.size w.heap.size [] w (w.alloc (.cells #[.pointer none, .slice none 0 0] 101)) from ⟨.inl ⟨Nat.le_refl _, _, XB.out, World.ownsRowF_nil _ _ _ _, by simp [Value.ownBlock]⟩, (Below.refl _ w).alloc (Nat.le_refl _) _⟩)
  clear hr0 hl h
  go_enter Tryz.func32, Tryz.ntmps32
  go_wp2
  go_loopg [11] (l0.length + 1) (fun kq v11 w' => ∃ (j : Nat) (L : List UInt8), v11 = .int .i64 (j : Int) ∧ Aside0 (j ≤ l0.length ∧ l0.length < j + kq) ∧ Aside0 (cmd_text.g k (l0.drop j) (j : Int) L = some (r1, r2)) ∧ Aside0 (cmd_text.Out w.heap.size w.heap.size L w w') ∧ Aside0 ((j = 0 → w'.heap[w.heap.size]? = some (.cells #[.pointer none, .slice none 0 0] 101 (0, 0)) ∧ L = []) ∧ (0 < j → L ≠ [])))
  case atStart => exact ⟨0, [], rfl, ⟨⟨Nat.zero_le _, by omega⟩⟩, ⟨HH.out⟩, HI, ⟨⟨fun _ => ⟨XB.out, rfl⟩, fun h => absurd h (by omega)⟩⟩⟩
  case round =>
    clear HI XB HH
    obtain ⟨j, L, rfl, HJ, HH, HI, HF⟩ := hrel
    cases gk with
    | zero => exact absurd HJ.out (by omega)
    | succ k1 =>
      by_cases hj : j < l0.length
      · obtain ⟨ad, e, hx0, hx1, hx2, hx3, hx4, hx5⟩ := at_T23 HR0.out (j : Int) (by omega) (by omega)
        cases e
        rw [Int.toNat_natCast] at hx0 hx1 hx2 hx3 hx4 hx5
        have hW := HI.out.2
        replace hx0 := (hW.cell (World.block_lt_of_cell? w _ hx0)).trans hx0
        replace hx1 := (hW.cell (World.block_lt_of_cell? w _ hx1)).trans hx1
        replace hx2 := (hW.cell (World.block_lt_of_cell? w _ hx2)).trans hx2
        replace hx3 := (hW.cell (World.block_lt_of_cell? w _ hx3)).trans hx3
        replace hx4 := (hW.cell (World.block_lt_of_cell? w _ hx4)).trans hx4
        replace hx5 := (hW.cell (World.block_lt_of_cell? w _ hx5)).trans hx5
        have h := HH.out
        rw [CmdText.drop_cons l0 j hj] at h
        clear hW HH
        generalize rd_T23 l0 (j : Int) = x at *
        obtain ⟨f0, f1, f2, f3, f4, f5⟩ := x
        simp only [cmd_text.g] at h
        obtain ⟨⟨t, u⟩, hE, h⟩ := Option.bind_eq_some_iff.1 h
        have HE := Aside0.mk hE
        clear hE
        have d0 : decide ((j : Int) < (l0.length : Int)) = true := decide_eq_true (by omega)
        have d1 : decide (0 ≤ (j : Int)) = true := decide_eq_true (by omega)
        have d2 : IntKind.i64.wrap ((j : Int) + 1) = ((j + 1 : Nat) : Int) := by have := HL.out; rw [i64_w]; unfold wrap64; omega
        have HSZ := Aside0.mk (show w.heap.size ≤ wr.heap.size from HI.out.2.size)
        have HNB := Aside0.mk (show w.heap.size < wr.heap.size from CmdText.bld_lt HI.out.1)
        rcases u with _ | c
        · have h2 : (if 0 < t.size ∧ L.length + t.size ≤ 100000000000000 then cmd_text.g k (l0.drop (j + 1)) ((j : Int) + 1) (L ++ t.toList) else none) = some (r1, r2) := h
          clear h
          by_cases hc : 0 < t.size ∧ L.length + t.size ≤ 100000000000000
          · rw [if_pos hc] at h2
            have HC := Aside0.mk hc
            have H2 := Aside0.mk h2
            clear hc h2
            have hcall := fun W hW => cmd_encode.calls k f0 f1 f2 f3 f4 f5 t none W hW HE.out
            simp only [errW_none] at hcall
            have HCALL := Aside0.mk hcall
            clear hcall
            go_wp2_with (first
              | (go_at_call 21
                 refine (HCALL.out _ ?t1).mono ?_
                 case t1 => exact Tabs.on hT (below_then HI.out.2 HSZ.out (by repeat (first | exact Below.refl _ _ | apply below_alloc | refine below_set ?_ (by simp))))
                 rintro e w1 ⟨rfl, hb⟩
                 have HB1 := Aside0.mk (below_then (Below.refl _ wr) (Nat.le_refl _) (below_step (by repeat (first | exact Below.refl _ _ | apply below_alloc | refine below_set ?_ (by simp))) hb))
                 clear hb)
              | (go_at_call 62; refine (ErrIs.is_nil 190 _).mono ?_; rintro e w' ⟨rfl, rfl⟩)
              | (go_at_call 64
                 refine (bld_write 101 (by kernel_rfl) (by decide) w.heap.size w.heap.size (Lib.byteCells L) t _ ?hb1 ?hb2 ?hb3).mono ?_
                 case hb1 => exact CmdText.bld_below HI.out.1 HB1.out
                 case hb2 => rw [Lib.byteCells_length]; have := HC.out.2; omega
                 case hb3 => have := HSZ.out; have := HB1.out.size; omega
                 rintro e w2 ⟨rfl, h1, h2, h3⟩))
            go_roundg k1
            case measure => omega
            case rel => exact ⟨j + 1, L ++ t.toList, by first | rfl | (simp [*]; done) | skip, ⟨by have := HJ.out; omega⟩, ⟨by have := H2.out; push_cast; exact this⟩, ⟨CmdText.bld_more h1, (below_then HI.out.2 HSZ.out HB1.out).trans h2⟩, ⟨fun h => absurd h (by omega), fun _ h => by
              have h4 := HC.out.1
              have h5 := congrArg List.length h
              rw [List.length_append, CmdText.toList_len, List.length_nil] at h5
              omega⟩⟩
          · rw [if_neg hc] at h2; exact absurd h2 (by simp)
        · have h2 : (if c = 190 then some ((⟨#[]⟩ : ByteArray), some (c, (j : Int))) else none) = some (r1, r2) := h
          clear h
          by_cases hc : c = 190
          · rw [if_pos hc] at h2
            subst hc
            simp only [Option.some.injEq, Prod.mk.injEq] at h2
            obtain ⟨rfl, rfl⟩ := h2
            have hcall := fun W hW => cmd_encode.calls k f0 f1 f2 f3 f4 f5 t (some 190) W hW HE.out
            simp only [errW_some] at hcall
            have HCALL := Aside0.mk hcall
            clear hcall
            go_wp2_with (first
              | (go_at_call 21
                 refine (HCALL.out _ ?t1).mono ?_
                 case t1 => exact Tabs.on hT (below_then HI.out.2 HSZ.out (by repeat (first | exact Below.refl _ _ | apply below_alloc | refine below_set ?_ (by simp))))
                 rintro e w1 ⟨rfl, hb⟩
                 have HB1 := Aside0.mk (below_then (Below.refl _ wr) (Nat.le_refl _) (below_step (by repeat (first | exact Below.refl _ _ | apply below_alloc | refine below_set ?_ (by simp))) hb))
                 clear hb)
              | (go_at_call 62; refine (ErrIs.is_hit 190 _).mono ?_; rintro e w' ⟨rfl, rfl⟩)
              | (go_at_call 63
                 refine (TellR.at_ 190 (j : Int) _ ?t2).mono ?_
                 case t2 => exact Tabs.on hT (below_then HI.out.2 HSZ.out HB1.out)
                 rintro e w2 ⟨v, rfl, hv, hb2⟩
                 have HV := Aside0.mk hv
                 have HB2 := Aside0.mk hb2
                 clear hv hb2))
            go_ret2
            exact ⟨_, rfl, HV.out, below_step (below_then HI.out.2 HSZ.out HB1.out) HB2.out⟩
          · rw [if_neg hc] at h2; exact absurd h2 (by simp)
      · have hjl : j = l0.length := by have := HJ.out; omega
        have h := HH.out
        rw [List.drop_of_length_le (by omega)] at h
        simp only [cmd_text.g, Option.some.injEq, Prod.mk.injEq] at h
        obtain ⟨rfl, rfl⟩ := h
        have d0 : decide ((j : Int) < (l0.length : Int)) = false := decide_eq_false (by omega)
        clear HH hjl
        by_cases hz : j = 0
        · have hs := fun W h => CmdText.string_nil w.heap.size w.heap.size 101 (.pointer none) W h
          obtain ⟨hx, rfl⟩ := HF.out.1 hz
          have XB := Aside0.mk hx
          clear hx hz
          go_wp2_with (go_at_call 65; refine (hs _ XB.out).mono ?_; rintro e w' ⟨rfl, hb⟩)
          go_ret2
          exact ⟨_, rfl, rfl, HI.out.2.trans hb⟩
        · have hs := bld_string 101 w.heap.size w.heap.size L wr HI.out.1 (HF.out.2 (by omega))
          have HS := Aside0.mk hs
          clear hs hz
          go_wp2_with (go_at_call 65; refine HS.out.mono ?_; rintro e w' ⟨rfl, h1, h2, h3⟩)
          go_ret2
          exact ⟨_, rfl, rfl, HI.out.2.trans h2⟩
set_option maxHeartbeats 8000000 in
set_option maxRecDepth 100000 in
theorem cmd_Text.calls (k : Nat) (A0 : Option Addr) (c0 : Nat) (l0 : List S23) (r1 : ByteArray) (r2 : Int) (r3 : Int) (r4 : Int) (w : World) (hr0 : Kd.C k23 w A0 l0.length l0) (hc0 : l0.length ≤ c0) (hT : Tabs w) (h : cmd_Text.f k l0 = some (r1, r2, r3, r4)) :
    Calls Tryz.prog 16 #[.slice A0 l0.length c0] w fun e w' => e = .returned (.tuple #[.string r1, .agg #[.int .i64 r2, .int .i64 r3, .int .i64 r4]]) ∧ Below w.heap.size w w' := by
  unfold cmd_Text.f at h
  by_cases hl : l0.length ≤ 1000000000
  · rw [if_pos hl] at h
    obtain ⟨⟨q1, q2⟩, hq, h⟩ := Option.bind_eq_some_iff.1 h
    have h3 := h
    simp only [Option.some.injEq, Prod.mk.injEq] at h3
    obtain ⟨rfl, rfl, rfl, rfl⟩ := h3
    have HQ := Aside0.mk hq
    have HR0 := Aside0.mk hr0
    have HL := Aside0.mk hl
    have hw0 := Aside0.mk (show Below w.heap.size w (w.alloc (.cells #[.int .i64 0, .int .i64 0, .int .i64 0] 30)) from (Below.refl _ w).alloc (Nat.le_refl _) _)
    have hk0 := Aside0.mk (show (w.alloc (.cells #[.int .i64 0, .int .i64 0, .int .i64 0] 30)).heap[w.heap.size]? = some (.cells #[.int .i64 0, .int .i64 0, .int .i64 0] 30 (0, 0)) by simpa using heap_alloc_new w _)
    have hr1 := Aside0.mk (Kd.C_below hr0 hw0.out)
    clear h hq hr0 hl hc0
    go_enter Tryz.func16, Tryz.ntmps16
    go_wp2_with (first
      | (go_at_call 32
         refine (cmd_text.calls k A0 c0 l0 q1 q2 _ (Tabs.on hT hw0.out) hr1.out HL.out HQ.out).mono ?_
         rintro e w1 ⟨v, rfl, hE, hb⟩
         have HE := Aside0.mk hE
         have HB1 := Aside0.mk (below_then hw0.out hw0.out.size hb)
         have HK1 := Aside0.mk (blk_below hk0.out hb)
         clear hE hb)
      | (go_at_call 22
         refine (TellR.tell _ q2 _ (Tabs.on hT HB1.out) HE.out).mono ?_
         rintro e w2 ⟨rfl, hb⟩
         have HB2 := Aside0.mk (below_step HB1.out hb)
         have HK2 := Aside0.mk (blk_below HK1.out hb)
         have c0_ := (blk_cell HK2.out 0).trans rfl
         have c1_ := (blk_cell HK2.out 1).trans rfl
         have c2_ := (blk_cell HK2.out 2).trans rfl
         have f0_ := blk_frozen HK2.out 0
         have f1_ := blk_frozen HK2.out 1
         have f2_ := blk_frozen HK2.out 2
         clear hb))
    refine bodyPost_ret (v := .tuple #[.string q1, .agg #[.int .i64 (TellR.toldRec q2).1, .int .i64 (TellR.toldRec q2).2.1, .int .i64 (TellR.toldRec q2).2.2]]) (by simp [results, Tryz.results16, go_sem, c0_, c1_, c2_]) rfl ⟨rfl, ((HB2.out.setCell (Nat.le_refl _) _).setCell (Nat.le_refl _) _).setCell (Nat.le_refl _) _⟩
  · rw [if_neg hl] at h; exact absurd h (by simp)


end Go.Proofs.YtofdpgcnconibaaGreatDoor.PA
