-- WRITTEN BY a program of this session (pp.sh)
import Derived.Test.YtdkbikaheagbfaaPTx0
import Derived.Test.YtdkbikaheagbfaaPTx3
namespace Go.Proofs.Ytdkbikaheagbfaa.PT
open Go.RowKit Go.Proofs.YtdkbikaheagbfaaW.PrintWords Go.Proofs.YtdkbikaheagbfaaW.PrintLast Go.Proofs.YtdkbikaheagbfaaW.PrintMore Go.Proofs.Ytdkbikaheagbfaa.Plain
attribute [local go_sem] max2_int min2_int max_two min_two max_three min_three max_four min_four binOp_leq_s binOp_gtr_s binOp_geq_s lit_byte   -- for this text's walks alone
set_option linter.unusedVariables false
set_option linter.unusedSimpArgs false

/-! ### node_written: function 26, by hand -/
/-- A text's bytes, with their number ahead; a number's. -/
def textB (s : ByteArray) : ByteArray := strOfNums (shortNums 9 s.size) ++ s
def shortB (n : Int) : ByteArray := strOfNums (shortNums 9 n)
theorem toList_len (s : ByteArray) : s.toList.length = s.size := by rw [ByteArray.toList_eq]; exact data_length s
theorem textB_size (s : ByteArray) : s.size ≤ (textB s).size := by unfold textB; rw [ByteArray.size_append]; omega
theorem textB_f (s : ByteArray) (h : s.size ≤ 140737488355328) : pack_Text.f s = some (textB s) := by unfold pack_Text.f; rw [if_pos (by omega)]; rfl
theorem shortB_f (n : Int) (h0 : 0 ≤ n) (h1 : n < 18446744073709551616) : pack_Short.f n = some (shortB n) := by unfold pack_Short.f; rw [if_pos ⟨h0, h1⟩]; rfl
theorem bld_lt {T e : TypeId} {B b : Nat} {bs : List Value} {w : World} (h : Lib.IsBuilderF T e B b bs w) : b < w.heap.size := h.elim (fun h => h.lt) (fun h => h.lt)
theorem bld_below {T e : TypeId} {B b : Nat} {bs : List Value} {W w2 : World} (h : Lib.IsBuilderF T e B b bs W) (hb : Below W.heap.size W w2) : Lib.IsBuilderF T e B b bs w2 := by
  have key : ∀ p, Lib.BuilderAtF T e B b p bs W → Lib.BuilderAtF T e B b p bs w2 := by
    intro p h
    have hlt := h.lt
    obtain ⟨hB, v, hk, hown, hne⟩ := h
    exact ⟨hB, v, (hb.block b hlt).trans hk, hown.kept (grown_of_below hb none) (by cases hv : v.ownBlock <;> simp), hne⟩
  exact h.elim (fun h => .inl (key _ h)) (fun h => .inr (key _ h))
theorem kept_below {W w2 : World} (hb : Below W.heap.size W w2) (e : TypeId) (b : Option Nat) : Lib.OthersKept e b W w2 := fun k o hk _ _ => (hb.block k (blk_lt hk)).trans hk
theorem bld_more {T e : TypeId} {B b : Nat} {L : List UInt8} {s : ByteArray} {w : World} (h : Lib.BuilderAtF T e B b (.pointer (some ⟨b, 0, none⟩)) (Lib.byteCells L ++ Lib.strCells s) w) : Lib.IsBuilderF T e B b (Lib.byteCells (L ++ s.toList)) w := by
  refine .inr ?_
  rw [Lib.byteCells_append, ByteArray.toList_eq]
  exact h
/-- What becomes of a writer: its bytes are these; all else stands. -/
def WrOut (B b : Nat) (L : List UInt8) (w w' : World) : Prop := Lib.IsBuilderF 76 5 B b (Lib.byteCells L) w' ∧ Below B w w' ∧ Lib.OthersKept 5 (some b) w w'

def itemBytes (x : S44) : List UInt8 := (textB x.f0).toList ++ (textB x.f1).toList
set_option maxHeartbeats 8000000 in
set_option maxRecDepth 100000 in
theorem node_written.item (B b : Nat) (L : List UInt8) (x : S44) (w : World) (h : Lib.IsBuilderF 76 5 B b (Lib.byteCells L) w) (hlen : L.length + (itemBytes x).length ≤ 140737488355328) (hBw : B ≤ w.heap.size) :
    Calls Try.prog 51 #[.pointer (some ⟨b, 0, none⟩), .agg #[.string x.f0, .string x.f1]] w fun e w' => e = .returned (.tuple #[]) ∧ WrOut B b (L ++ itemBytes x) w w' := by
  obtain ⟨f0, f1⟩ := x
  have HT0 := Aside0.mk (show pack_Text.f f0 = some (textB f0) from textB_f f0 (by have := hlen; simp only [itemBytes, List.length_append, toList_len] at this; have := textB_size f0; omega))
  have HT1 := Aside0.mk (show pack_Text.f f1 = some (textB f1) from textB_f f1 (by have := hlen; simp only [itemBytes, List.length_append, toList_len] at this; have := textB_size f1; omega))
  have HL := Aside0.mk (show L.length + ((textB f0).size + (textB f1).size) ≤ 140737488355328 by have := hlen; simp only [itemBytes, List.length_append, toList_len] at this; exact this)
  have Y1 := Aside0.mk (h.alloc (.cells #[.string f0, .string f1] 44))
  have Y2 := Aside0.mk ((Below.refl B w).alloc hBw (.cells #[.string f0, .string f1] 44))
  have Y3 := Aside0.mk ((Lib.OthersKept.refl 5 (some b) w).alloc (.cells #[.string f0, .string f1] 44))
  have X1 := Aside0.mk (heap_alloc_new w (.cells #[.string f0, .string f1] 44))
  have YB := Aside0.mk (show B ≤ (w.alloc (.cells #[.string f0, .string f1] 44)).heap.size by have := Y2.out.size; omega)
  have hne : b ≠ w.heap.size := by have := bld_lt h; omega
  have HNE := Aside0.mk hne
  clear h hlen hBw hne
  go_enter Try.func51, Try.ntmps51
  go_wp2
  generalize w.alloc (.cells #[.string f0, .string f1] 44) = W1 at Y1 Y2 Y3 X1 YB ⊢
  refine start_ (n := 7) (S := fun w' => w'.cell? ⟨w.heap.size, 0, none⟩ = some (.string f0)) (ds := []) #[false, false, false, false, false, false, false] (by kernel_rfl) rfl rfl ((blk_cell X1.out 0)) (fun hHeld => ?_)
  refine pure_ (i := 0) (N := some 4) (v := ?_) (a' := ?_) #[true, false, false, false, false, false, false] rfl rfl (by kernel_rfl) (fun _ _ _ h => h) (Or.inl ⟨by rfl, ?_⟩) ?_ ?_
  rotate_left
  · intro w'
    go_simp
    with_reducible rfl
  rotate_left
  · simp only [Act.put, List.setIfInBounds_toArray, List.set_cons_zero, List.set_cons_succ, i64_w, i32_w]
    rfl
  refine pure_ (i := 1) (N := some 5) (v := ?_) (a' := ?_) #[true, true, false, false, false, false, false] rfl rfl (by kernel_rfl) (fun _ _ _ h => h) (Or.inl ⟨by rfl, ?_⟩) ?_ ?_
  rotate_left
  · intro w'
    go_simp
    with_reducible rfl
  rotate_left
  · simp only [Act.put, List.setIfInBounds_toArray, List.set_cons_zero, List.set_cons_succ, i64_w, i32_w]
    rfl
  refine pure_ (i := 2) (N := some 6) (v := ?_) (a' := ?_) #[true, true, true, false, false, false, false] rfl rfl (by kernel_rfl) (fun _ _ _ h => h) (Or.inl ⟨by rfl, ?_⟩) ?_ ?_
  rotate_left
  · intro w'
    go_simp
    with_reducible rfl
  rotate_left
  · simp only [Act.put, List.setIfInBounds_toArray, List.set_cons_zero, List.set_cons_succ, i64_w, i32_w]
    rfl
  refine pure_ (i := 3) (N := some 7) (v := ?_) (a' := ?_) #[true, true, true, true, false, false, false] rfl rfl (by kernel_rfl) (fun _ _ _ h => h) (Or.inl ⟨by rfl, ?_⟩) ?_ ?_
  rotate_left
  · intro w'
    go_simp
    with_reducible rfl
  rotate_left
  · simp only [Act.put, List.setIfInBounds_toArray, List.set_cons_zero, List.set_cons_succ, i64_w, i32_w]
    rfl
  refine take_ (i := 4) (N := some 8) (v := ?_) (a' := ?_) #[true, true, true, true, true, false, false] rfl rfl (by kernel_rfl) (fun _ _ _ h => h) (Or.inl ⟨by rfl, ?_⟩) hHeld ?_ ?_
  rotate_left
  · intro w' s0
    go_simp
    with_reducible rfl
  rotate_left
  · simp only [Act.put, List.setIfInBounds_toArray, List.set_cons_zero, List.set_cons_succ, i64_w, i32_w]
    rfl
  refine one_ (i := 5) (N := some 9) #[true, true, true, true, true, true, false] rfl rfl (by kernel_rfl) (by decide) (fun K hK => ?_)
  refine goes_ Try.func75 (by kernel_rfl) rfl #[.string f0] (by rfl) rfl rfl (by (try simp only [List.map_toArray, List.map_cons, List.map_nil]); (rfl)) ?_
  with_reducible refine (pack_Text.calls f0 (textB f0) _ HT0.out).mono ?_
  rintro e W2 ⟨rfl, hb⟩
  refine ⟨_, rfl, ?_⟩
  have Z1 := Aside0.mk (bld_below (W := W1.drew) Y1.out hb)
  have Z2 := Aside0.mk (below_then (w1 := W1.drew) (below_drew Y2.out) YB.out hb)
  have Z3 := Aside0.mk (Y3.out.trans (kept_below (W := W1.drew) hb 5 (some b)))
  have ZB := Aside0.mk (show B ≤ W2.heap.size by have h_ := hb.size; have : B ≤ W1.drew.heap.size := YB.out; omega)
  have X2 := Aside0.mk ((hb.block _ (blk_lt (w := W1.drew) X1.out)).trans X1.out)
  clear Y1 Y2 Y3 YB X1 hb
  refine hK.out _ _ ((blk_cell X2.out 0)) (fun hHeld => ?_)
  clear hK K
  refine norm_ (a' := ?_) ?_ ?_
  rotate_left
  · show Act.put _ (some 9) _ = _
    simp only [Act.put, List.setIfInBounds_toArray, List.set_cons_zero, List.set_cons_succ, i64_w, i32_w]
    rfl
  refine one_ (i := 6) (N := some 10) #[true, true, true, true, true, true, true] rfl rfl (by kernel_rfl) (by decide) (fun K hK => ?_)
  refine goes_ Try.func48 (by kernel_rfl) rfl #[.pointer (some ⟨b, 0, none⟩), .string (textB f0)] (by rfl) rfl rfl (by (try simp only [List.map_toArray, List.map_cons, List.map_nil]); (rfl)) ?_
  refine (bld_write 76 (by kernel_rfl) (by decide) B b (Lib.byteCells L) (textB f0) _ Z1.out (by rw [Lib.byteCells_length]; have := HL.out; omega) ZB.out).mono ?_
  rintro e W1 ⟨rfl, h1, h2, h3⟩
  refine ⟨_, rfl, ?_⟩
  have Y1 := Aside0.mk (bld_more h1)
  have Y2 := Aside0.mk (Z2.out.trans h2)
  have Y3 := Aside0.mk (Z3.out.trans h3)
  have YB := Aside0.mk (show B ≤ W1.heap.size by have := h2.size; have := ZB.out; omega)
  have X1 := Aside0.mk (h3 _ _ X2.out (fun e => HNE.out (Option.some.inj e).symm) (fun _ _ e => by cases e))
  clear Z1 Z2 Z3 ZB X2 h1 h2 h3
  refine hK.out _ _ ((blk_cell X1.out 0)) (fun hHeld => ?_)
  clear hK K
  refine norm_ (a' := ?_) ?_ ?_
  rotate_left
  · show Act.put _ (some 10) _ = _
    simp only [Act.put, List.setIfInBounds_toArray, List.set_cons_zero, List.set_cons_succ, i64_w, i32_w]
    rfl
  refine done_ (by kernel_rfl) ?_
  go_wp2
  refine start_ (n := 7) (S := fun w' => w'.cell? ⟨w.heap.size, 1, none⟩ = some (.string f1)) (ds := []) #[false, false, false, false, false, false, false] (by kernel_rfl) rfl rfl ((blk_cell X1.out 1)) (fun hHeld => ?_)
  refine pure_ (i := 0) (N := some 11) (v := ?_) (a' := ?_) #[true, false, false, false, false, false, false] rfl rfl (by kernel_rfl) (fun _ _ _ h => h) (Or.inl ⟨by rfl, ?_⟩) ?_ ?_
  rotate_left
  · intro w'
    go_simp
    with_reducible rfl
  rotate_left
  · simp only [Act.put, List.setIfInBounds_toArray, List.set_cons_zero, List.set_cons_succ, i64_w, i32_w]
    rfl
  refine pure_ (i := 1) (N := some 12) (v := ?_) (a' := ?_) #[true, true, false, false, false, false, false] rfl rfl (by kernel_rfl) (fun _ _ _ h => h) (Or.inl ⟨by rfl, ?_⟩) ?_ ?_
  rotate_left
  · intro w'
    go_simp
    with_reducible rfl
  rotate_left
  · simp only [Act.put, List.setIfInBounds_toArray, List.set_cons_zero, List.set_cons_succ, i64_w, i32_w]
    rfl
  refine pure_ (i := 2) (N := some 13) (v := ?_) (a' := ?_) #[true, true, true, false, false, false, false] rfl rfl (by kernel_rfl) (fun _ _ _ h => h) (Or.inl ⟨by rfl, ?_⟩) ?_ ?_
  rotate_left
  · intro w'
    go_simp
    with_reducible rfl
  rotate_left
  · simp only [Act.put, List.setIfInBounds_toArray, List.set_cons_zero, List.set_cons_succ, i64_w, i32_w]
    rfl
  refine pure_ (i := 3) (N := some 14) (v := ?_) (a' := ?_) #[true, true, true, true, false, false, false] rfl rfl (by kernel_rfl) (fun _ _ _ h => h) (Or.inl ⟨by rfl, ?_⟩) ?_ ?_
  rotate_left
  · intro w'
    go_simp
    with_reducible rfl
  rotate_left
  · simp only [Act.put, List.setIfInBounds_toArray, List.set_cons_zero, List.set_cons_succ, i64_w, i32_w]
    rfl
  refine take_ (i := 4) (N := some 15) (v := ?_) (a' := ?_) #[true, true, true, true, true, false, false] rfl rfl (by kernel_rfl) (fun _ _ _ h => h) (Or.inl ⟨by rfl, ?_⟩) hHeld ?_ ?_
  rotate_left
  · intro w' s0
    go_simp
    with_reducible rfl
  rotate_left
  · simp only [Act.put, List.setIfInBounds_toArray, List.set_cons_zero, List.set_cons_succ, i64_w, i32_w]
    rfl
  refine one_ (i := 5) (N := some 16) #[true, true, true, true, true, true, false] rfl rfl (by kernel_rfl) (by decide) (fun K hK => ?_)
  refine goes_ Try.func75 (by kernel_rfl) rfl #[.string f1] (by rfl) rfl rfl (by (try simp only [List.map_toArray, List.map_cons, List.map_nil]); (rfl)) ?_
  with_reducible refine (pack_Text.calls f1 (textB f1) _ HT1.out).mono ?_
  rintro e W2 ⟨rfl, hb⟩
  refine ⟨_, rfl, ?_⟩
  have Z1 := Aside0.mk (bld_below (W := W1.drew) Y1.out hb)
  have Z2 := Aside0.mk (below_then (w1 := W1.drew) (below_drew Y2.out) YB.out hb)
  have Z3 := Aside0.mk (Y3.out.trans (kept_below (W := W1.drew) hb 5 (some b)))
  have ZB := Aside0.mk (show B ≤ W2.heap.size by have h_ := hb.size; have : B ≤ W1.drew.heap.size := YB.out; omega)
  have X2 := Aside0.mk ((hb.block _ (blk_lt (w := W1.drew) X1.out)).trans X1.out)
  clear Y1 Y2 Y3 YB X1 hb
  refine hK.out _ _ ((blk_cell X2.out 1)) (fun hHeld => ?_)
  clear hK K
  refine norm_ (a' := ?_) ?_ ?_
  rotate_left
  · show Act.put _ (some 16) _ = _
    simp only [Act.put, List.setIfInBounds_toArray, List.set_cons_zero, List.set_cons_succ, i64_w, i32_w]
    rfl
  refine one_ (i := 6) (N := some 17) #[true, true, true, true, true, true, true] rfl rfl (by kernel_rfl) (by decide) (fun K hK => ?_)
  refine goes_ Try.func48 (by kernel_rfl) rfl #[.pointer (some ⟨b, 0, none⟩), .string (textB f1)] (by rfl) rfl rfl (by (try simp only [List.map_toArray, List.map_cons, List.map_nil]); (rfl)) ?_
  refine (bld_write 76 (by kernel_rfl) (by decide) B b (Lib.byteCells (L ++ (textB f0).toList)) (textB f1) _ Z1.out (by rw [Lib.byteCells_length]; rw [List.length_append, toList_len]; have := HL.out; omega) ZB.out).mono ?_
  rintro e W1 ⟨rfl, h1, h2, h3⟩
  refine ⟨_, rfl, ?_⟩
  have Y1 := Aside0.mk (bld_more h1)
  have Y2 := Aside0.mk (Z2.out.trans h2)
  have Y3 := Aside0.mk (Z3.out.trans h3)
  have YB := Aside0.mk (show B ≤ W1.heap.size by have := h2.size; have := ZB.out; omega)
  have X1 := Aside0.mk (h3 _ _ X2.out (fun e => HNE.out (Option.some.inj e).symm) (fun _ _ e => by cases e))
  clear Z1 Z2 Z3 ZB X2 h1 h2 h3
  refine hK.out _ _ ((blk_cell X1.out 1)) (fun hHeld => ?_)
  clear hK K
  refine norm_ (a' := ?_) ?_ ?_
  rotate_left
  · show Act.put _ (some 17) _ = _
    simp only [Act.put, List.setIfInBounds_toArray, List.set_cons_zero, List.set_cons_succ, i64_w, i32_w]
    rfl
  refine done_ (by kernel_rfl) ?_
  go_wp2
  go_end0
  refine ⟨rfl, ?_, Y2.out, Y3.out⟩
  have := Y1.out
  rw [List.append_assoc] at this
  exact this

def kidBytes (x : S46) : List UInt8 := (textB x.f0).toList ++ (shortB (x.f1 % 18446744073709551616)).toList
set_option maxHeartbeats 8000000 in
set_option maxRecDepth 100000 in
theorem node_written.kid (B b : Nat) (L : List UInt8) (x : S46) (w : World) (h : Lib.IsBuilderF 76 5 B b (Lib.byteCells L) w) (hlen : L.length + (kidBytes x).length ≤ 140737488355328) (hBw : B ≤ w.heap.size) :
    Calls Try.prog 53 #[.pointer (some ⟨b, 0, none⟩), .agg #[.string x.f0, .int .i64 x.f1]] w fun e w' => e = .returned (.tuple #[]) ∧ WrOut B b (L ++ kidBytes x) w w' := by
  obtain ⟨f0, f1⟩ := x
  have HT0 := Aside0.mk (show pack_Text.f f0 = some (textB f0) from textB_f f0 (by have := hlen; simp only [kidBytes, List.length_append, toList_len] at this; have := textB_size f0; omega))
  have HT1 := Aside0.mk (show pack_Short.f (f1 % 18446744073709551616) = some (shortB (f1 % 18446744073709551616)) from shortB_f _ (by omega) (by omega))
  have HL := Aside0.mk (show L.length + ((textB f0).size + (shortB (f1 % 18446744073709551616)).size) ≤ 140737488355328 by have := hlen; simp only [kidBytes, List.length_append, toList_len] at this; exact this)
  have Y1 := Aside0.mk (h.alloc (.cells #[.string f0, .int .i64 f1] 46))
  have Y2 := Aside0.mk ((Below.refl B w).alloc hBw (.cells #[.string f0, .int .i64 f1] 46))
  have Y3 := Aside0.mk ((Lib.OthersKept.refl 5 (some b) w).alloc (.cells #[.string f0, .int .i64 f1] 46))
  have X1 := Aside0.mk (heap_alloc_new w (.cells #[.string f0, .int .i64 f1] 46))
  have YB := Aside0.mk (show B ≤ (w.alloc (.cells #[.string f0, .int .i64 f1] 46)).heap.size by have := Y2.out.size; omega)
  have hne : b ≠ w.heap.size := by have := bld_lt h; omega
  have HNE := Aside0.mk hne
  clear h hlen hBw hne
  go_enter Try.func53, Try.ntmps53
  go_wp2
  generalize w.alloc (.cells #[.string f0, .int .i64 f1] 46) = W1 at Y1 Y2 Y3 X1 YB ⊢
  refine start_ (n := 7) (S := fun w' => w'.cell? ⟨w.heap.size, 0, none⟩ = some (.string f0)) (ds := []) #[false, false, false, false, false, false, false] (by kernel_rfl) rfl rfl ((blk_cell X1.out 0)) (fun hHeld => ?_)
  refine pure_ (i := 0) (N := some 4) (v := ?_) (a' := ?_) #[true, false, false, false, false, false, false] rfl rfl (by kernel_rfl) (fun _ _ _ h => h) (Or.inl ⟨by rfl, ?_⟩) ?_ ?_
  rotate_left
  · intro w'
    go_simp
    with_reducible rfl
  rotate_left
  · simp only [Act.put, List.setIfInBounds_toArray, List.set_cons_zero, List.set_cons_succ, i64_w, i32_w]
    rfl
  refine pure_ (i := 1) (N := some 5) (v := ?_) (a' := ?_) #[true, true, false, false, false, false, false] rfl rfl (by kernel_rfl) (fun _ _ _ h => h) (Or.inl ⟨by rfl, ?_⟩) ?_ ?_
  rotate_left
  · intro w'
    go_simp
    with_reducible rfl
  rotate_left
  · simp only [Act.put, List.setIfInBounds_toArray, List.set_cons_zero, List.set_cons_succ, i64_w, i32_w]
    rfl
  refine pure_ (i := 2) (N := some 6) (v := ?_) (a' := ?_) #[true, true, true, false, false, false, false] rfl rfl (by kernel_rfl) (fun _ _ _ h => h) (Or.inl ⟨by rfl, ?_⟩) ?_ ?_
  rotate_left
  · intro w'
    go_simp
    with_reducible rfl
  rotate_left
  · simp only [Act.put, List.setIfInBounds_toArray, List.set_cons_zero, List.set_cons_succ, i64_w, i32_w]
    rfl
  refine pure_ (i := 3) (N := some 7) (v := ?_) (a' := ?_) #[true, true, true, true, false, false, false] rfl rfl (by kernel_rfl) (fun _ _ _ h => h) (Or.inl ⟨by rfl, ?_⟩) ?_ ?_
  rotate_left
  · intro w'
    go_simp
    with_reducible rfl
  rotate_left
  · simp only [Act.put, List.setIfInBounds_toArray, List.set_cons_zero, List.set_cons_succ, i64_w, i32_w]
    rfl
  refine take_ (i := 4) (N := some 8) (v := ?_) (a' := ?_) #[true, true, true, true, true, false, false] rfl rfl (by kernel_rfl) (fun _ _ _ h => h) (Or.inl ⟨by rfl, ?_⟩) hHeld ?_ ?_
  rotate_left
  · intro w' s0
    go_simp
    with_reducible rfl
  rotate_left
  · simp only [Act.put, List.setIfInBounds_toArray, List.set_cons_zero, List.set_cons_succ, i64_w, i32_w]
    rfl
  refine one_ (i := 5) (N := some 9) #[true, true, true, true, true, true, false] rfl rfl (by kernel_rfl) (by decide) (fun K hK => ?_)
  refine goes_ Try.func75 (by kernel_rfl) rfl #[.string f0] (by rfl) rfl rfl (by (try simp only [List.map_toArray, List.map_cons, List.map_nil]); (rfl)) ?_
  with_reducible refine (pack_Text.calls f0 (textB f0) _ HT0.out).mono ?_
  rintro e W2 ⟨rfl, hb⟩
  refine ⟨_, rfl, ?_⟩
  have Z1 := Aside0.mk (bld_below (W := W1.drew) Y1.out hb)
  have Z2 := Aside0.mk (below_then (w1 := W1.drew) (below_drew Y2.out) YB.out hb)
  have Z3 := Aside0.mk (Y3.out.trans (kept_below (W := W1.drew) hb 5 (some b)))
  have ZB := Aside0.mk (show B ≤ W2.heap.size by have h_ := hb.size; have : B ≤ W1.drew.heap.size := YB.out; omega)
  have X2 := Aside0.mk ((hb.block _ (blk_lt (w := W1.drew) X1.out)).trans X1.out)
  clear Y1 Y2 Y3 YB X1 hb
  refine hK.out _ _ ((blk_cell X2.out 0)) (fun hHeld => ?_)
  clear hK K
  refine norm_ (a' := ?_) ?_ ?_
  rotate_left
  · show Act.put _ (some 9) _ = _
    simp only [Act.put, List.setIfInBounds_toArray, List.set_cons_zero, List.set_cons_succ, i64_w, i32_w]
    rfl
  refine one_ (i := 6) (N := some 10) #[true, true, true, true, true, true, true] rfl rfl (by kernel_rfl) (by decide) (fun K hK => ?_)
  refine goes_ Try.func48 (by kernel_rfl) rfl #[.pointer (some ⟨b, 0, none⟩), .string (textB f0)] (by rfl) rfl rfl (by (try simp only [List.map_toArray, List.map_cons, List.map_nil]); (rfl)) ?_
  refine (bld_write 76 (by kernel_rfl) (by decide) B b (Lib.byteCells L) (textB f0) _ Z1.out (by rw [Lib.byteCells_length]; have := HL.out; omega) ZB.out).mono ?_
  rintro e W1 ⟨rfl, h1, h2, h3⟩
  refine ⟨_, rfl, ?_⟩
  have Y1 := Aside0.mk (bld_more h1)
  have Y2 := Aside0.mk (Z2.out.trans h2)
  have Y3 := Aside0.mk (Z3.out.trans h3)
  have YB := Aside0.mk (show B ≤ W1.heap.size by have := h2.size; have := ZB.out; omega)
  have X1 := Aside0.mk (h3 _ _ X2.out (fun e => HNE.out (Option.some.inj e).symm) (fun _ _ e => by cases e))
  clear Z1 Z2 Z3 ZB X2 h1 h2 h3
  refine hK.out _ _ ((blk_cell X1.out 0)) (fun hHeld => ?_)
  clear hK K
  refine norm_ (a' := ?_) ?_ ?_
  rotate_left
  · show Act.put _ (some 10) _ = _
    simp only [Act.put, List.setIfInBounds_toArray, List.set_cons_zero, List.set_cons_succ, i64_w, i32_w]
    rfl
  refine done_ (by kernel_rfl) ?_
  go_wp2
  refine start_ (n := 8) (S := fun w' => w'.cell? ⟨w.heap.size, 1, none⟩ = some (.int .i64 f1)) (ds := []) #[false, false, false, false, false, false, false, false] (by kernel_rfl) rfl rfl ((blk_cell X1.out 1)) (fun hHeld => ?_)
  refine pure_ (i := 0) (N := some 11) (v := ?_) (a' := ?_) #[true, false, false, false, false, false, false, false] rfl rfl (by kernel_rfl) (fun _ _ _ h => h) (Or.inl ⟨by rfl, ?_⟩) ?_ ?_
  rotate_left
  · intro w'
    go_simp
    with_reducible rfl
  rotate_left
  · simp only [Act.put, List.setIfInBounds_toArray, List.set_cons_zero, List.set_cons_succ, i64_w, i32_w]
    rfl
  refine pure_ (i := 1) (N := some 12) (v := ?_) (a' := ?_) #[true, true, false, false, false, false, false, false] rfl rfl (by kernel_rfl) (fun _ _ _ h => h) (Or.inl ⟨by rfl, ?_⟩) ?_ ?_
  rotate_left
  · intro w'
    go_simp
    with_reducible rfl
  rotate_left
  · simp only [Act.put, List.setIfInBounds_toArray, List.set_cons_zero, List.set_cons_succ, i64_w, i32_w]
    rfl
  refine pure_ (i := 2) (N := some 13) (v := ?_) (a' := ?_) #[true, true, true, false, false, false, false, false] rfl rfl (by kernel_rfl) (fun _ _ _ h => h) (Or.inl ⟨by rfl, ?_⟩) ?_ ?_
  rotate_left
  · intro w'
    go_simp
    with_reducible rfl
  rotate_left
  · simp only [Act.put, List.setIfInBounds_toArray, List.set_cons_zero, List.set_cons_succ, i64_w, i32_w]
    rfl
  refine pure_ (i := 3) (N := some 14) (v := ?_) (a' := ?_) #[true, true, true, true, false, false, false, false] rfl rfl (by kernel_rfl) (fun _ _ _ h => h) (Or.inl ⟨by rfl, ?_⟩) ?_ ?_
  rotate_left
  · intro w'
    go_simp
    with_reducible rfl
  rotate_left
  · simp only [Act.put, List.setIfInBounds_toArray, List.set_cons_zero, List.set_cons_succ, i64_w, i32_w]
    rfl
  refine take_ (i := 4) (N := some 15) (v := ?_) (a' := ?_) #[true, true, true, true, true, false, false, false] rfl rfl (by kernel_rfl) (fun _ _ _ h => h) (Or.inl ⟨by rfl, ?_⟩) hHeld ?_ ?_
  rotate_left
  · intro w' s0
    go_simp
    with_reducible rfl
  rotate_left
  · simp only [Act.put, List.setIfInBounds_toArray, List.set_cons_zero, List.set_cons_succ, i64_w, i32_w]
    rfl
  refine pure_ (i := 5) (N := some 16) (v := ?_) (a' := ?_) #[true, true, true, true, true, true, false, false] rfl rfl (by kernel_rfl) (fun _ _ _ h => h) (Or.inl ⟨by rfl, ?_⟩) ?_ ?_
  rotate_left
  · intro w'
    go_simp
    with_reducible rfl
  rotate_left
  · simp only [Act.put, List.setIfInBounds_toArray, List.set_cons_zero, List.set_cons_succ, i64_w, i32_w]
    rfl
  refine one_ (i := 6) (N := some 17) #[true, true, true, true, true, true, true, false] rfl rfl (by kernel_rfl) (by decide) (fun K hK => ?_)
  refine goes_ Try.func49 (by kernel_rfl) rfl #[.int .u64 (f1 % 18446744073709551616)] (by rfl) rfl rfl (by (try simp only [List.map_toArray, List.map_cons, List.map_nil]); (rfl)) ?_
  with_reducible refine (pack_Short.calls (f1 % 18446744073709551616) (shortB (f1 % 18446744073709551616)) _ HT1.out).mono ?_
  rintro e W2 ⟨rfl, hb⟩
  refine ⟨_, rfl, ?_⟩
  have Z1 := Aside0.mk (bld_below (W := W1.drew) Y1.out hb)
  have Z2 := Aside0.mk (below_then (w1 := W1.drew) (below_drew Y2.out) YB.out hb)
  have Z3 := Aside0.mk (Y3.out.trans (kept_below (W := W1.drew) hb 5 (some b)))
  have ZB := Aside0.mk (show B ≤ W2.heap.size by have h_ := hb.size; have : B ≤ W1.drew.heap.size := YB.out; omega)
  have X2 := Aside0.mk ((hb.block _ (blk_lt (w := W1.drew) X1.out)).trans X1.out)
  clear Y1 Y2 Y3 YB X1 hb
  refine hK.out _ _ ((blk_cell X2.out 1)) (fun hHeld => ?_)
  clear hK K
  refine norm_ (a' := ?_) ?_ ?_
  rotate_left
  · show Act.put _ (some 17) _ = _
    simp only [Act.put, List.setIfInBounds_toArray, List.set_cons_zero, List.set_cons_succ, i64_w, i32_w]
    rfl
  refine one_ (i := 7) (N := some 18) #[true, true, true, true, true, true, true, true] rfl rfl (by kernel_rfl) (by decide) (fun K hK => ?_)
  refine goes_ Try.func48 (by kernel_rfl) rfl #[.pointer (some ⟨b, 0, none⟩), .string (shortB (f1 % 18446744073709551616))] (by rfl) rfl rfl (by (try simp only [List.map_toArray, List.map_cons, List.map_nil]); (rfl)) ?_
  refine (bld_write 76 (by kernel_rfl) (by decide) B b (Lib.byteCells (L ++ (textB f0).toList)) (shortB (f1 % 18446744073709551616)) _ Z1.out (by rw [Lib.byteCells_length]; rw [List.length_append, toList_len]; have := HL.out; omega) ZB.out).mono ?_
  rintro e W1 ⟨rfl, h1, h2, h3⟩
  refine ⟨_, rfl, ?_⟩
  have Y1 := Aside0.mk (bld_more h1)
  have Y2 := Aside0.mk (Z2.out.trans h2)
  have Y3 := Aside0.mk (Z3.out.trans h3)
  have YB := Aside0.mk (show B ≤ W1.heap.size by have := h2.size; have := ZB.out; omega)
  have X1 := Aside0.mk (h3 _ _ X2.out (fun e => HNE.out (Option.some.inj e).symm) (fun _ _ e => by cases e))
  clear Z1 Z2 Z3 ZB X2 h1 h2 h3
  refine hK.out _ _ ((blk_cell X1.out 1)) (fun hHeld => ?_)
  clear hK K
  refine norm_ (a' := ?_) ?_ ?_
  rotate_left
  · show Act.put _ (some 18) _ = _
    simp only [Act.put, List.setIfInBounds_toArray, List.set_cons_zero, List.set_cons_succ, i64_w, i32_w]
    rfl
  refine done_ (by kernel_rfl) ?_
  go_wp2
  go_end0
  refine ⟨rfl, ?_, Y2.out, Y3.out⟩
  have := Y1.out
  rw [List.append_assoc] at this
  exact this

set_option maxHeartbeats 8000000 in
set_option maxRecDepth 100000 in
theorem node_written.all_item (B b : Nat) (L : List UInt8) (A0 : Option Addr) (c0 : Nat) (l0 : List S44) (w0 w : World) (hr0 : Kd.C k44 w0 A0 l0.length l0) (hB0 : w0.heap.size ≤ B) (hw : Below w0.heap.size w0 w) (hl : l0.length ≤ 9223372036854775000)
    (h : Lib.IsBuilderF 76 5 B b (Lib.byteCells L) w) (hlen : L.length + (l0.flatMap itemBytes).length ≤ 140737488355328) (hBw : B ≤ w.heap.size) :
    Calls Try.prog 50 #[.slice A0 l0.length c0, .func (.func 51) #[.pointer (some ⟨b, 0, none⟩)] #[]] w fun e w' => e = .returned (.tuple #[]) ∧ WrOut B b (L ++ l0.flatMap itemBytes) w w' := by
  have hu := Try.underlying44
  have HR0 := Aside0.mk hr0
  have HL := Aside0.mk hl
  have HLEN := Aside0.mk hlen
  have HBW := Aside0.mk hBw
  have HB0 := Aside0.mk hB0
  have HW := Aside0.mk hw
  have HI := Aside0.mk (show WrOut B b L w w from ⟨h, Below.refl _ _, Lib.OthersKept.refl _ _ _⟩)
  have eg := enters_of (P := Try.prog) Try.func51 (by kernel_rfl) rfl
  clear hr0 hl hlen hBw h hB0 hw
  go_enter Try.func50, Try.ntmps50
  go_wp2
  go_loopg [8] (l0.length + 1) (fun kq v8 w' => ∃ j : Nat, v8 = .int .i64 (j : Int) ∧ Aside0 (j ≤ l0.length ∧ l0.length < j + kq) ∧ Aside0 (WrOut B b (L ++ (l0.take j).flatMap itemBytes) w w'))
  case atStart => exact ⟨0, rfl, ⟨⟨Nat.zero_le _, by omega⟩⟩, ⟨by simpa using HI.out⟩⟩
  case round =>
    clear HI
    obtain ⟨j, rfl, HJ, HI⟩ := hrel
    cases gk with
    | zero => exact absurd HJ.out (by omega)
    | succ k1 =>
      by_cases hj : j < l0.length
      · obtain ⟨ad, e, hx0, hx1⟩ := at_T44 HR0.out (j : Int) (by omega) (by omega)
        cases e
        rw [Int.toNat_natCast] at hx0 hx1
        have hW : Below w0.heap.size w0 wr := HW.out.trans (HI.out.2.1.mono HB0.out)
        replace hx0 := (hW.cell (World.block_lt_of_cell? w0 _ hx0)).trans hx0
        replace hx1 := (hW.cell (World.block_lt_of_cell? w0 _ hx1)).trans hx1
        have htk : (l0.take (j + 1)).flatMap itemBytes = (l0.take j).flatMap itemBytes ++ itemBytes (rd_T44 l0 (j : Int)) := by
          rw [List.take_succ_eq_append_getElem hj, List.flatMap_append]
          unfold rd_T44
          rw [Int.toNat_natCast, List.getD_eq_getElem?_getD, List.getElem?_eq_getElem hj]
          simp
        have hsz : ((l0.take (j + 1)).flatMap itemBytes).length ≤ (l0.flatMap itemBytes).length := by
          have : l0.flatMap itemBytes = (l0.take (j + 1)).flatMap itemBytes ++ (l0.drop (j + 1)).flatMap itemBytes := by rw [← List.flatMap_append, List.take_append_drop]
          rw [this, List.length_append]; omega
        rw [htk, List.length_append] at hsz
        have HTK := Aside0.mk htk
        clear htk hW
        generalize rd_T44 l0 (j : Int) = x at *
        have hq : (L ++ (l0.take j).flatMap itemBytes).length + (itemBytes x).length ≤ 140737488355328 := by rw [List.length_append]; have := HLEN.out; omega
        have HQ := Aside0.mk hq
        clear hsz hq
        have d0 : decide ((j : Int) < (l0.length : Int)) = true := decide_eq_true (by omega)
        have d1 : decide (0 ≤ (j : Int)) = true := decide_eq_true (by omega)
        have d2 : IntKind.i64.wrap ((j : Int) + 1) = ((j + 1 : Nat) : Int) := by have := HL.out; rw [i64_w]; unfold wrap64; omega
        have HSZ := Aside0.mk (show B ≤ wr.heap.size by have := HI.out.2.1.size; have := HBW.out; omega)
        have HNB := Aside0.mk (show B ≤ b ∧ b < wr.heap.size from ⟨HI.out.1.elim (fun h => h.1) (fun h => h.1), bld_lt HI.out.1⟩)
        go_wp2_with (first
          | (go_at_call 51
             refine (node_written.item B b (L ++ (l0.take j).flatMap itemBytes) x _ ?hb1 HQ.out ?hb2).mono ?_
             case hb1 => exact bld_below HI.out.1 (by repeat (first | exact Below.refl _ _ | apply below_alloc ))
             case hb2 => simp; have := HSZ.out; omega
             rintro e w' ⟨rfl, h1, h2, h3⟩))
        go_roundg k1
        case measure => omega
        case rel => exact ⟨j + 1, by (rfl), ⟨by have := HJ.out; omega⟩, ⟨by
          rw [HTK.out, ← List.append_assoc]
          exact ⟨h1, (below_then HI.out.2.1 HSZ.out (by repeat (first | exact Below.refl _ _ | apply below_alloc ))).trans h2, (HI.out.2.2.trans (kept_below (by repeat (first | exact Below.refl _ _ | apply below_alloc )) _ _)).trans h3⟩⟩⟩
      · have hjl : j = l0.length := by have := HJ.out; omega
        have HJL := Aside0.mk hjl
        clear hjl
        have d0 : decide ((j : Int) < (l0.length : Int)) = false := decide_eq_false (by omega)
        go_wp2
        go_end0
        have h1 := HI.out
        rw [HJL.out, List.take_length] at h1
        exact ⟨rfl, h1⟩

set_option maxHeartbeats 8000000 in
set_option maxRecDepth 100000 in
theorem node_written.all_kid (B b : Nat) (L : List UInt8) (A0 : Option Addr) (c0 : Nat) (l0 : List S46) (w0 w : World) (hr0 : Kd.C k46 w0 A0 l0.length l0) (hB0 : w0.heap.size ≤ B) (hw : Below w0.heap.size w0 w) (hl : l0.length ≤ 9223372036854775000)
    (h : Lib.IsBuilderF 76 5 B b (Lib.byteCells L) w) (hlen : L.length + (l0.flatMap kidBytes).length ≤ 140737488355328) (hBw : B ≤ w.heap.size) :
    Calls Try.prog 52 #[.slice A0 l0.length c0, .func (.func 53) #[.pointer (some ⟨b, 0, none⟩)] #[]] w fun e w' => e = .returned (.tuple #[]) ∧ WrOut B b (L ++ l0.flatMap kidBytes) w w' := by
  have hu := Try.underlying46
  have HR0 := Aside0.mk hr0
  have HL := Aside0.mk hl
  have HLEN := Aside0.mk hlen
  have HBW := Aside0.mk hBw
  have HB0 := Aside0.mk hB0
  have HW := Aside0.mk hw
  have HI := Aside0.mk (show WrOut B b L w w from ⟨h, Below.refl _ _, Lib.OthersKept.refl _ _ _⟩)
  have eg := enters_of (P := Try.prog) Try.func53 (by kernel_rfl) rfl
  clear hr0 hl hlen hBw h hB0 hw
  go_enter Try.func52, Try.ntmps52
  go_wp2
  go_loopg [8] (l0.length + 1) (fun kq v8 w' => ∃ j : Nat, v8 = .int .i64 (j : Int) ∧ Aside0 (j ≤ l0.length ∧ l0.length < j + kq) ∧ Aside0 (WrOut B b (L ++ (l0.take j).flatMap kidBytes) w w'))
  case atStart => exact ⟨0, rfl, ⟨⟨Nat.zero_le _, by omega⟩⟩, ⟨by simpa using HI.out⟩⟩
  case round =>
    clear HI
    obtain ⟨j, rfl, HJ, HI⟩ := hrel
    cases gk with
    | zero => exact absurd HJ.out (by omega)
    | succ k1 =>
      by_cases hj : j < l0.length
      · obtain ⟨ad, e, hx0, hx1⟩ := at_T46 HR0.out (j : Int) (by omega) (by omega)
        cases e
        rw [Int.toNat_natCast] at hx0 hx1
        have hW : Below w0.heap.size w0 wr := HW.out.trans (HI.out.2.1.mono HB0.out)
        replace hx0 := (hW.cell (World.block_lt_of_cell? w0 _ hx0)).trans hx0
        replace hx1 := (hW.cell (World.block_lt_of_cell? w0 _ hx1)).trans hx1
        have htk : (l0.take (j + 1)).flatMap kidBytes = (l0.take j).flatMap kidBytes ++ kidBytes (rd_T46 l0 (j : Int)) := by
          rw [List.take_succ_eq_append_getElem hj, List.flatMap_append]
          unfold rd_T46
          rw [Int.toNat_natCast, List.getD_eq_getElem?_getD, List.getElem?_eq_getElem hj]
          simp
        have hsz : ((l0.take (j + 1)).flatMap kidBytes).length ≤ (l0.flatMap kidBytes).length := by
          have : l0.flatMap kidBytes = (l0.take (j + 1)).flatMap kidBytes ++ (l0.drop (j + 1)).flatMap kidBytes := by rw [← List.flatMap_append, List.take_append_drop]
          rw [this, List.length_append]; omega
        rw [htk, List.length_append] at hsz
        have HTK := Aside0.mk htk
        clear htk hW
        generalize rd_T46 l0 (j : Int) = x at *
        have hq : (L ++ (l0.take j).flatMap kidBytes).length + (kidBytes x).length ≤ 140737488355328 := by rw [List.length_append]; have := HLEN.out; omega
        have HQ := Aside0.mk hq
        clear hsz hq
        have d0 : decide ((j : Int) < (l0.length : Int)) = true := decide_eq_true (by omega)
        have d1 : decide (0 ≤ (j : Int)) = true := decide_eq_true (by omega)
        have d2 : IntKind.i64.wrap ((j : Int) + 1) = ((j + 1 : Nat) : Int) := by have := HL.out; rw [i64_w]; unfold wrap64; omega
        have HSZ := Aside0.mk (show B ≤ wr.heap.size by have := HI.out.2.1.size; have := HBW.out; omega)
        have HNB := Aside0.mk (show B ≤ b ∧ b < wr.heap.size from ⟨HI.out.1.elim (fun h => h.1) (fun h => h.1), bld_lt HI.out.1⟩)
        go_wp2_with (first
          | (go_at_call 53
             refine (node_written.kid B b (L ++ (l0.take j).flatMap kidBytes) x _ ?hb1 HQ.out ?hb2).mono ?_
             case hb1 => exact bld_below HI.out.1 (by repeat (first | exact Below.refl _ _ | apply below_alloc ))
             case hb2 => simp; have := HSZ.out; omega
             rintro e w' ⟨rfl, h1, h2, h3⟩))
        go_roundg k1
        case measure => omega
        case rel => exact ⟨j + 1, by (rfl), ⟨by have := HJ.out; omega⟩, ⟨by
          rw [HTK.out, ← List.append_assoc]
          exact ⟨h1, (below_then HI.out.2.1 HSZ.out (by repeat (first | exact Below.refl _ _ | apply below_alloc ))).trans h2, (HI.out.2.2.trans (kept_below (by repeat (first | exact Below.refl _ _ | apply below_alloc )) _ _)).trans h3⟩⟩⟩
      · have hjl : j = l0.length := by have := HJ.out; omega
        have HJL := Aside0.mk hjl
        clear hjl
        have d0 : decide ((j : Int) < (l0.length : Int)) = false := decide_eq_false (by omega)
        go_wp2
        go_end0
        have h1 := HI.out
        rw [HJL.out, List.take_length] at h1
        exact ⟨rfl, h1⟩

/-- A node's bytes. -/
def nodeBytes (a : Bool) (l : List S44) (m : List S46) : List UInt8 :=
  [if a = true then 1 else 2] ++ ((shortB ((l.length : Int) + (m.length : Int))).toList ++ (l.flatMap itemBytes ++ m.flatMap kidBytes))
def node_written.f (a : Bool) (l : List S44) (m : List S46) : Option ByteArray :=
  if (nodeBytes a l m).length ≤ 140737488355328 ∧ l.length + m.length ≤ 9223372036854775000 then some ⟨(nodeBytes a l m).toArray⟩ else none
theorem toList_one (c : UInt8) : (⟨#[c]⟩ : ByteArray).toList = [c] := by rw [ByteArray.toList_eq]
set_option maxHeartbeats 8000000 in
set_option maxRecDepth 100000 in
theorem node_written.calls (a0_0 : Bool) (A0_1 : Option Addr) (c0_1 : Nat) (l0_1 : List (S44)) (A0_2 : Option Addr) (c0_2 : Nat) (l0_2 : List (S46)) (r : ByteArray) (w : World) (hr0_1 : Kd.C k44 w A0_1 l0_1.length l0_1) (hc0_1 : l0_1.length ≤ c0_1) (hr0_2 : Kd.C k46 w A0_2 l0_2.length l0_2) (hc0_2 : l0_2.length ≤ c0_2) (h : node_written.f a0_0 l0_1 l0_2 = some r) :
    Calls Try.prog 26 #[.agg #[.bool a0_0, .slice A0_1 l0_1.length c0_1, .slice A0_2 l0_2.length c0_2]] w fun e w' => e = .returned (.string r) ∧ Below w.heap.size w w' := by
  unfold node_written.f at h
  split at h
  case isFalse => cases h
  case isTrue hh =>
  obtain rfl := Option.some.inj h
  clear h
  obtain ⟨hlen, hcnt⟩ := hh
  have HLEN := Aside0.mk (show 1 + ((shortB ((l0_1.length : Int) + (l0_2.length : Int))).size + ((l0_1.flatMap itemBytes).length + (l0_2.flatMap kidBytes).length)) ≤ 140737488355328 by
    have := hlen; simp only [nodeBytes, List.length_append, toList_len, List.length_cons, List.length_nil] at this; omega)
  have HS := Aside0.mk (shortB_f ((l0_1.length : Int) + (l0_2.length : Int)) (by omega) (by omega))
  have HR1 := Aside0.mk hr0_1
  have HR2 := Aside0.mk hr0_2
  have HC := Aside0.mk hcnt
  have hw1 : IntKind.i64.wrap ((l0_1.length : Int) + (l0_2.length : Int)) = (l0_1.length : Int) + (l0_2.length : Int) := by rw [i64_w]; unfold wrap64; omega
  have hw2 : IntKind.u64.wrap ((l0_1.length : Int) + (l0_2.length : Int)) = (l0_1.length : Int) + (l0_2.length : Int) := by rw [wrap_u64]; omega
  have HW1 := Aside0.mk hw1
  have HW2 := Aside0.mk hw2
  clear hw1 hw2
  generalize hnb : nodeBytes a0_0 l0_1 l0_2 = NB
  have HNB := Aside0.mk hnb
  clear hlen hcnt hr0_1 hr0_2 hc0_1 hc0_2 hnb
  have XN := Aside0.mk (show ((w.alloc (.cells #[.bool a0_0, .slice A0_1 l0_1.length c0_1, .slice A0_2 l0_2.length c0_2] 25)).alloc (.cells #[.pointer none, .slice none 0 0] 76)).heap[w.heap.size]? = some (.cells #[.bool a0_0, .slice A0_1 l0_1.length c0_1, .slice A0_2 l0_2.length c0_2] 25 (0, 0)) from by
    rw [Lib.alloc_old _ _ _ (by simp)]; exact heap_alloc_new w _)
  have XB := Aside0.mk (show ((w.alloc (.cells #[.bool a0_0, .slice A0_1 l0_1.length c0_1, .slice A0_2 l0_2.length c0_2] 25)).alloc (.cells #[.pointer none, .slice none 0 0] 76)).heap[w.heap.size + 1]? = some (.cells #[.pointer none, .slice none 0 0] 76 (0, 0)) from by
    have := heap_alloc_new (w.alloc (.cells #[.bool a0_0, .slice A0_1 l0_1.length c0_1, .slice A0_2 l0_2.length c0_2] 25)) (.cells #[.pointer none, .slice none 0 0] 76)
    simpa using this)
  have ZZ := Aside0.mk (show Below w.heap.size w ((w.alloc (.cells #[.bool a0_0, .slice A0_1 l0_1.length c0_1, .slice A0_2 l0_2.length c0_2] 25)).alloc (.cells #[.pointer none, .slice none 0 0] 76)) from below_alloc (below_alloc (Below.refl _ _) _) _)
  have ZS := Aside0.mk (show w.heap.size + 1 ≤ ((w.alloc (.cells #[.bool a0_0, .slice A0_1 l0_1.length c0_1, .slice A0_2 l0_2.length c0_2] 25)).alloc (.cells #[.pointer none, .slice none 0 0] 76)).heap.size by simp)
  cases a0_0 with
  | true =>
    go_enter Try.func26, Try.ntmps26
    go_wp2_with fail
    generalize ((w.alloc (.cells #[.bool true, .slice A0_1 l0_1.length c0_1, .slice A0_2 l0_2.length c0_2] 25)).alloc (.cells #[.pointer none, .slice none 0 0] 76)) = W1 at XN XB ZZ ZS ⊢
    have Y1 := Aside0.mk (show Lib.IsBuilderF 76 5 (w.heap.size + 1) (w.heap.size + 1) (Lib.byteCells []) W1 from .inl ⟨Nat.le_refl _, _, XB.out, World.ownsRowF_nil _ _ _ _, by simp [Value.ownBlock]⟩)
    refine (bld_write 76 (by kernel_rfl) (by decide) (w.heap.size + 1) (w.heap.size + 1) (Lib.byteCells []) ⟨#[1]⟩ _ Y1.out (by decide) ZS.out).mono ?_
    rintro e W2 ⟨rfl, h1, h2, h3⟩
    have Y2 := Aside0.mk (bld_more h1)
    have Z2 := Aside0.mk (ZZ.out.trans (h2.mono (Nat.le_succ _)))
    have S2 := Aside0.mk (show w.heap.size + 1 ≤ W2.heap.size by have := h2.size; have := ZS.out; omega)
    have X2 := Aside0.mk (h3 _ _ XN.out (fun e => by have := Option.some.inj e; omega) (fun _ _ e => by cases e))
    have n0 : (w.heap.size : Nat) ≠ w.heap.size + 1 := by omega
    have k1 := blk_cell X2.out 1
    have k2 := blk_cell X2.out 2
    simp only [List.getElem?_toArray, List.getElem?_cons_succ, List.getElem?_cons_zero] at k1 k2
    clear Y1 ZZ ZS XN XB h1 h2 h3
    have e1 := HW1.out
    have e2 := HW2.out
    go_wp2_with fail
    clear e1 e2
    refine (pack_Short.calls _ _ _ HS.out).mono ?_
    rintro e W3 ⟨rfl, hb⟩
    have Y3 := Aside0.mk (bld_below Y2.out hb)
    have Z3 := Aside0.mk (below_then Z2.out (below_size Z2.out) hb)
    have S3 := Aside0.mk (show w.heap.size + 1 ≤ W3.heap.size by have := hb.size; have := S2.out; omega)
    have X3 := Aside0.mk ((hb.block _ (blk_lt X2.out)).trans X2.out)
    clear Y2 Z2 S2 X2 hb k1 k2
    go_wp2_with fail
    refine (bld_write 76 (by kernel_rfl) (by decide) (w.heap.size + 1) (w.heap.size + 1) (Lib.byteCells ([] ++ (⟨#[1]⟩ : ByteArray).toList)) _ _ Y3.out (by rw [Lib.byteCells_length, List.length_append, toList_len]; have := HLEN.out; show 0 + 1 + _ ≤ _; omega) S3.out).mono ?_
    rintro e W4 ⟨rfl, h1, h2, h3⟩
    have Y4 := Aside0.mk (bld_more h1)
    have Z4 := Aside0.mk (Z3.out.trans (h2.mono (Nat.le_succ _)))
    have S4 := Aside0.mk (show w.heap.size + 1 ≤ W4.heap.size by have := h2.size; have := S3.out; omega)
    have X4 := Aside0.mk (h3 _ _ X3.out (fun e => by have := Option.some.inj e; omega) (fun _ _ e => by cases e))
    have k1 := blk_cell X4.out 1
    simp only [List.getElem?_toArray, List.getElem?_cons_succ, List.getElem?_cons_zero] at k1
    clear Y3 Z3 S3 X3 h1 h2 h3
    go_wp2_with fail
    refine (node_written.all_item (w.heap.size + 1) (w.heap.size + 1) ([] ++ (⟨#[1]⟩ : ByteArray).toList ++ (shortB ((l0_1.length : Int) + (l0_2.length : Int))).toList) A0_1 c0_1 l0_1 w _ HR1.out (Nat.le_succ _) Z4.out (by have := HC.out; omega) Y4.out (by simp only [List.length_append, toList_len, List.length_nil]; have := HLEN.out; show 0 + 1 + _ + _ ≤ _; omega) S4.out).mono ?_
    rintro e W5 ⟨rfl, h1, h2, h3⟩
    have Y5 := Aside0.mk h1
    have Z5 := Aside0.mk (Z4.out.trans (h2.mono (Nat.le_succ _)))
    have S5 := Aside0.mk (show w.heap.size + 1 ≤ W5.heap.size by have := h2.size; have := S4.out; omega)
    have X5 := Aside0.mk (h3 _ _ X4.out (fun e => by have := Option.some.inj e; omega) (fun _ _ e => by cases e))
    have k2 := blk_cell X5.out 2
    simp only [List.getElem?_toArray, List.getElem?_cons_succ, List.getElem?_cons_zero] at k2
    clear Y4 Z4 S4 X4 h1 h2 h3 k1
    go_wp2_with fail
    refine (node_written.all_kid (w.heap.size + 1) (w.heap.size + 1) ([] ++ (⟨#[1]⟩ : ByteArray).toList ++ (shortB ((l0_1.length : Int) + (l0_2.length : Int))).toList ++ l0_1.flatMap itemBytes) A0_2 c0_2 l0_2 w _ HR2.out (Nat.le_succ _) Z5.out (by have := HC.out; omega) Y5.out (by simp only [List.length_append, toList_len, List.length_nil]; have := HLEN.out; show 0 + 1 + _ + _ + _ ≤ _; omega) S5.out).mono ?_
    rintro e W6 ⟨rfl, h1, h2, h3⟩
    have Z6 := Aside0.mk (Z5.out.trans (h2.mono (Nat.le_succ _)))
    have hl : [] ++ (⟨#[1]⟩ : ByteArray).toList ++ (shortB ((l0_1.length : Int) + (l0_2.length : Int))).toList ++ l0_1.flatMap itemBytes ++ l0_2.flatMap kidBytes = NB := by
      rw [← HNB.out, toList_one]; simp [nodeBytes]
    rw [hl] at h1
    have Y6 := Aside0.mk h1
    clear Y5 Z5 S5 X5 h1 h2 h3 k2 hl
    go_wp2_with fail
    refine (bld_string 76 (w.heap.size + 1) (w.heap.size + 1) NB _ Y6.out (by rw [← HNB.out]; simp [nodeBytes])).mono ?_
    rintro e W7 ⟨rfl, h1, h2, h3⟩
    have Z7 := Aside0.mk (Z6.out.trans (h2.mono (Nat.le_succ _)))
    clear h1 h2 h3
    go_wp2
    go_ret
    exact ⟨rfl, Z7.out⟩
  | false =>
    go_enter Try.func26, Try.ntmps26
    go_wp2_with fail
    generalize ((w.alloc (.cells #[.bool false, .slice A0_1 l0_1.length c0_1, .slice A0_2 l0_2.length c0_2] 25)).alloc (.cells #[.pointer none, .slice none 0 0] 76)) = W1 at XN XB ZZ ZS ⊢
    have Y1 := Aside0.mk (show Lib.IsBuilderF 76 5 (w.heap.size + 1) (w.heap.size + 1) (Lib.byteCells []) W1 from .inl ⟨Nat.le_refl _, _, XB.out, World.ownsRowF_nil _ _ _ _, by simp [Value.ownBlock]⟩)
    refine (bld_write 76 (by kernel_rfl) (by decide) (w.heap.size + 1) (w.heap.size + 1) (Lib.byteCells []) ⟨#[2]⟩ _ Y1.out (by decide) ZS.out).mono ?_
    rintro e W2 ⟨rfl, h1, h2, h3⟩
    have Y2 := Aside0.mk (bld_more h1)
    have Z2 := Aside0.mk (ZZ.out.trans (h2.mono (Nat.le_succ _)))
    have S2 := Aside0.mk (show w.heap.size + 1 ≤ W2.heap.size by have := h2.size; have := ZS.out; omega)
    have X2 := Aside0.mk (h3 _ _ XN.out (fun e => by have := Option.some.inj e; omega) (fun _ _ e => by cases e))
    have n0 : (w.heap.size : Nat) ≠ w.heap.size + 1 := by omega
    have k1 := blk_cell X2.out 1
    have k2 := blk_cell X2.out 2
    simp only [List.getElem?_toArray, List.getElem?_cons_succ, List.getElem?_cons_zero] at k1 k2
    clear Y1 ZZ ZS XN XB h1 h2 h3
    have e1 := HW1.out
    have e2 := HW2.out
    go_wp2_with fail
    clear e1 e2
    refine (pack_Short.calls _ _ _ HS.out).mono ?_
    rintro e W3 ⟨rfl, hb⟩
    have Y3 := Aside0.mk (bld_below Y2.out hb)
    have Z3 := Aside0.mk (below_then Z2.out (below_size Z2.out) hb)
    have S3 := Aside0.mk (show w.heap.size + 1 ≤ W3.heap.size by have := hb.size; have := S2.out; omega)
    have X3 := Aside0.mk ((hb.block _ (blk_lt X2.out)).trans X2.out)
    clear Y2 Z2 S2 X2 hb k1 k2
    go_wp2_with fail
    refine (bld_write 76 (by kernel_rfl) (by decide) (w.heap.size + 1) (w.heap.size + 1) (Lib.byteCells ([] ++ (⟨#[2]⟩ : ByteArray).toList)) _ _ Y3.out (by rw [Lib.byteCells_length, List.length_append, toList_len]; have := HLEN.out; show 0 + 1 + _ ≤ _; omega) S3.out).mono ?_
    rintro e W4 ⟨rfl, h1, h2, h3⟩
    have Y4 := Aside0.mk (bld_more h1)
    have Z4 := Aside0.mk (Z3.out.trans (h2.mono (Nat.le_succ _)))
    have S4 := Aside0.mk (show w.heap.size + 1 ≤ W4.heap.size by have := h2.size; have := S3.out; omega)
    have X4 := Aside0.mk (h3 _ _ X3.out (fun e => by have := Option.some.inj e; omega) (fun _ _ e => by cases e))
    have k1 := blk_cell X4.out 1
    simp only [List.getElem?_toArray, List.getElem?_cons_succ, List.getElem?_cons_zero] at k1
    clear Y3 Z3 S3 X3 h1 h2 h3
    go_wp2_with fail
    refine (node_written.all_item (w.heap.size + 1) (w.heap.size + 1) ([] ++ (⟨#[2]⟩ : ByteArray).toList ++ (shortB ((l0_1.length : Int) + (l0_2.length : Int))).toList) A0_1 c0_1 l0_1 w _ HR1.out (Nat.le_succ _) Z4.out (by have := HC.out; omega) Y4.out (by simp only [List.length_append, toList_len, List.length_nil]; have := HLEN.out; show 0 + 1 + _ + _ ≤ _; omega) S4.out).mono ?_
    rintro e W5 ⟨rfl, h1, h2, h3⟩
    have Y5 := Aside0.mk h1
    have Z5 := Aside0.mk (Z4.out.trans (h2.mono (Nat.le_succ _)))
    have S5 := Aside0.mk (show w.heap.size + 1 ≤ W5.heap.size by have := h2.size; have := S4.out; omega)
    have X5 := Aside0.mk (h3 _ _ X4.out (fun e => by have := Option.some.inj e; omega) (fun _ _ e => by cases e))
    have k2 := blk_cell X5.out 2
    simp only [List.getElem?_toArray, List.getElem?_cons_succ, List.getElem?_cons_zero] at k2
    clear Y4 Z4 S4 X4 h1 h2 h3 k1
    go_wp2_with fail
    refine (node_written.all_kid (w.heap.size + 1) (w.heap.size + 1) ([] ++ (⟨#[2]⟩ : ByteArray).toList ++ (shortB ((l0_1.length : Int) + (l0_2.length : Int))).toList ++ l0_1.flatMap itemBytes) A0_2 c0_2 l0_2 w _ HR2.out (Nat.le_succ _) Z5.out (by have := HC.out; omega) Y5.out (by simp only [List.length_append, toList_len, List.length_nil]; have := HLEN.out; show 0 + 1 + _ + _ + _ ≤ _; omega) S5.out).mono ?_
    rintro e W6 ⟨rfl, h1, h2, h3⟩
    have Z6 := Aside0.mk (Z5.out.trans (h2.mono (Nat.le_succ _)))
    have hl : [] ++ (⟨#[2]⟩ : ByteArray).toList ++ (shortB ((l0_1.length : Int) + (l0_2.length : Int))).toList ++ l0_1.flatMap itemBytes ++ l0_2.flatMap kidBytes = NB := by
      rw [← HNB.out, toList_one]; simp [nodeBytes]
    rw [hl] at h1
    have Y6 := Aside0.mk h1
    clear Y5 Z5 S5 X5 h1 h2 h3 k2 hl
    go_wp2_with fail
    refine (bld_string 76 (w.heap.size + 1) (w.heap.size + 1) NB _ Y6.out (by rw [← HNB.out]; simp [nodeBytes])).mono ?_
    rintro e W7 ⟨rfl, h1, h2, h3⟩
    have Z7 := Aside0.mk (Z6.out.trans (h2.mono (Nat.le_succ _)))
    clear h1 h2 h3
    go_wp2
    go_ret
    exact ⟨rfl, Z7.out⟩


end Go.Proofs.Ytdkbikaheagbfaa.PT
