-- WRITTEN BY a program of this session (pp.sh)
import Derived.Test.YtgnffienfjigiaaDoorPAx0
import Derived.Test.YtgnffienfjigiaaDoorPAx3
import Derived.Test.YtgnffienfjigiaaDoorPAx4
import Derived.Test.YtgnffienfjigiaaDoorPAx5
namespace Go.Proofs.YtgnffienfjigiaaDoor.PA
open Go.RowKit Go.Proofs.YtgnffienfjigiaaDoorW.PrintWords Go.Proofs.YtgnffienfjigiaaDoorW.PrintLast Go.Proofs.YtgnffienfjigiaaDoorW.PrintMore Go.Proofs.YtgnffienfjigiaaDoor.Plain
attribute [local go_sem] max2_int min2_int max_two min_two max_three min_three max_four min_four binOp_leq_s binOp_gtr_s binOp_geq_s lit_byte   -- for this text's walks alone
set_option linter.unusedVariables false
set_option linter.unusedSimpArgs false

/-! ### sparse_Write: function 11, by hand -/
set_option maxHeartbeats 8000000 in
set_option maxRecDepth 100000 in
/-- A piece's bytes, as an array. -/
theorem sparse_Write.of (i : Int) (s : ByteArray) (hs : s.size = 64) (w : World) : Calls Tryd.prog 27 #[.agg #[.int .i64 i, .string s]] w fun e w' => e = .returned (.agg (nums .u8 (bytesOf s)).toArray) ∧ Below w.heap.size w w' := by
  have hb2 : Below w.heap.size w ((w.alloc (.cells #[.int .i64 i, .string s] 39)).alloc (.cells #[.int .u8 0, .int .u8 0, .int .u8 0, .int .u8 0, .int .u8 0, .int .u8 0, .int .u8 0, .int .u8 0, .int .u8 0, .int .u8 0, .int .u8 0, .int .u8 0, .int .u8 0, .int .u8 0, .int .u8 0, .int .u8 0, .int .u8 0, .int .u8 0, .int .u8 0, .int .u8 0, .int .u8 0, .int .u8 0, .int .u8 0, .int .u8 0, .int .u8 0, .int .u8 0, .int .u8 0, .int .u8 0, .int .u8 0, .int .u8 0, .int .u8 0, .int .u8 0, .int .u8 0, .int .u8 0, .int .u8 0, .int .u8 0, .int .u8 0, .int .u8 0, .int .u8 0, .int .u8 0, .int .u8 0, .int .u8 0, .int .u8 0, .int .u8 0, .int .u8 0, .int .u8 0, .int .u8 0, .int .u8 0, .int .u8 0, .int .u8 0, .int .u8 0, .int .u8 0, .int .u8 0, .int .u8 0, .int .u8 0, .int .u8 0, .int .u8 0, .int .u8 0, .int .u8 0, .int .u8 0, .int .u8 0, .int .u8 0, .int .u8 0, .int .u8 0] 64)) := below_alloc (below_alloc (Below.refl _ _) _) _
  have hz := blk_new (w.alloc (.cells #[.int .i64 i, .string s] 39)) (.cells #[.int .u8 0, .int .u8 0, .int .u8 0, .int .u8 0, .int .u8 0, .int .u8 0, .int .u8 0, .int .u8 0, .int .u8 0, .int .u8 0, .int .u8 0, .int .u8 0, .int .u8 0, .int .u8 0, .int .u8 0, .int .u8 0, .int .u8 0, .int .u8 0, .int .u8 0, .int .u8 0, .int .u8 0, .int .u8 0, .int .u8 0, .int .u8 0, .int .u8 0, .int .u8 0, .int .u8 0, .int .u8 0, .int .u8 0, .int .u8 0, .int .u8 0, .int .u8 0, .int .u8 0, .int .u8 0, .int .u8 0, .int .u8 0, .int .u8 0, .int .u8 0, .int .u8 0, .int .u8 0, .int .u8 0, .int .u8 0, .int .u8 0, .int .u8 0, .int .u8 0, .int .u8 0, .int .u8 0, .int .u8 0, .int .u8 0, .int .u8 0, .int .u8 0, .int .u8 0, .int .u8 0, .int .u8 0, .int .u8 0, .int .u8 0, .int .u8 0, .int .u8 0, .int .u8 0, .int .u8 0, .int .u8 0, .int .u8 0, .int .u8 0, .int .u8 0] 64)
  have hsz : (w.alloc (.cells #[.int .i64 i, .string s] 39)).heap.size = w.heap.size + 1 := Array.size_push ..
  have hp : ((w.alloc (.cells #[.int .i64 i, .string s] 39)).alloc (.cells #[.int .u8 0, .int .u8 0, .int .u8 0, .int .u8 0, .int .u8 0, .int .u8 0, .int .u8 0, .int .u8 0, .int .u8 0, .int .u8 0, .int .u8 0, .int .u8 0, .int .u8 0, .int .u8 0, .int .u8 0, .int .u8 0, .int .u8 0, .int .u8 0, .int .u8 0, .int .u8 0, .int .u8 0, .int .u8 0, .int .u8 0, .int .u8 0, .int .u8 0, .int .u8 0, .int .u8 0, .int .u8 0, .int .u8 0, .int .u8 0, .int .u8 0, .int .u8 0, .int .u8 0, .int .u8 0, .int .u8 0, .int .u8 0, .int .u8 0, .int .u8 0, .int .u8 0, .int .u8 0, .int .u8 0, .int .u8 0, .int .u8 0, .int .u8 0, .int .u8 0, .int .u8 0, .int .u8 0, .int .u8 0, .int .u8 0, .int .u8 0, .int .u8 0, .int .u8 0, .int .u8 0, .int .u8 0, .int .u8 0, .int .u8 0, .int .u8 0, .int .u8 0, .int .u8 0, .int .u8 0, .int .u8 0, .int .u8 0, .int .u8 0, .int .u8 0] 64)).cell? ⟨w.heap.size, 1, none⟩ = some (.string s) := (blk_cell (blk_alloc (blk_new w _) _) 1).trans rfl
  rw [hsz] at hz
  have HB2 := Aside0.mk hb2
  have HZ := Aside0.mk hz
  have HP := Aside0.mk hp
  clear hb2 hz hp hsz
  have hi64 : (Tryd.prog.info? 64).map (·.size) = some 64 := by kernel_rfl
  have HI := Aside0.mk hi64
  have HS := Aside0.mk hs
  have hle : 64 ≤ s.size := by omega
  clear hi64 hs
  go_enter Tryd.func27, Tryd.ntmps27
  go_upto_region 1 with (fail)
  generalize (w.alloc (.cells #[.int .i64 i, .string s] 39)).alloc (.cells #[.int .u8 0, .int .u8 0, .int .u8 0, .int .u8 0, .int .u8 0, .int .u8 0, .int .u8 0, .int .u8 0, .int .u8 0, .int .u8 0, .int .u8 0, .int .u8 0, .int .u8 0, .int .u8 0, .int .u8 0, .int .u8 0, .int .u8 0, .int .u8 0, .int .u8 0, .int .u8 0, .int .u8 0, .int .u8 0, .int .u8 0, .int .u8 0, .int .u8 0, .int .u8 0, .int .u8 0, .int .u8 0, .int .u8 0, .int .u8 0, .int .u8 0, .int .u8 0, .int .u8 0, .int .u8 0, .int .u8 0, .int .u8 0, .int .u8 0, .int .u8 0, .int .u8 0, .int .u8 0, .int .u8 0, .int .u8 0, .int .u8 0, .int .u8 0, .int .u8 0, .int .u8 0, .int .u8 0, .int .u8 0, .int .u8 0, .int .u8 0, .int .u8 0, .int .u8 0, .int .u8 0, .int .u8 0, .int .u8 0, .int .u8 0, .int .u8 0, .int .u8 0, .int .u8 0, .int .u8 0, .int .u8 0, .int .u8 0, .int .u8 0, .int .u8 0] 64) = w2 at *
  obtain ⟨w3, cap, hcv, hb3, hlt3, hcells⟩ := conv_row (P := Tryd.prog) w2 9 66 5 s Tryd.underlying9 Tryd.underlying66 Tryd.underlying5
  have hld := run_load_arr (P := Tryd.prog) w3 w2.heap.size 0 64 (nums .u8 (bytesOf s)) Tryd.underlying64 (by rw [HI.out]; simp [nums, bytesOf_length, HS.out]) (fun j v h => by
    obtain ⟨x, hx, rfl⟩ := nums_get _ _ _ _ h
    have hj : j < s.size := by
      have := (List.getElem?_eq_some_iff.1 hx).1
      rwa [bytesOf_length] at this
    rw [Nat.zero_add, hcells j hj]
    have hr := rd_bytesOf s (j : Int)
    unfold rd at hr
    rw [Int.toNat_natCast, List.getD_eq_getElem?_getD, hx] at hr
    rw [← hr]
    rfl)
  have HB3 := Aside0.mk (below_step HB2.out hb3)
  have HZ3 := Aside0.mk (blk_below HZ.out hb3)
  have hp := HP.out
  have hu := Tryd.underlying64
  have har := run_arrayAt (P := Tryd.prog) w3 64 5 64 (some ⟨w2.heap.size, 0, none⟩) s.size cap hu (by omega)
  clear hb3 hlt3 hcells HP HZ HB2
  go_wp2_with (first | refine wpList_load_arr rfl 64 (.tmp 6) rfl w2.heap.size 0 rfl _ hld ?_ | refine wpList_store_row rfl 64 (.tmp 2) (.tmp 7) rfl (w.heap.size + 1) (nums .u8 (bytesOf s)).toArray rfl rfl 64 #[.int .u8 0, .int .u8 0, .int .u8 0, .int .u8 0, .int .u8 0, .int .u8 0, .int .u8 0, .int .u8 0, .int .u8 0, .int .u8 0, .int .u8 0, .int .u8 0, .int .u8 0, .int .u8 0, .int .u8 0, .int .u8 0, .int .u8 0, .int .u8 0, .int .u8 0, .int .u8 0, .int .u8 0, .int .u8 0, .int .u8 0, .int .u8 0, .int .u8 0, .int .u8 0, .int .u8 0, .int .u8 0, .int .u8 0, .int .u8 0, .int .u8 0, .int .u8 0, .int .u8 0, .int .u8 0, .int .u8 0, .int .u8 0, .int .u8 0, .int .u8 0, .int .u8 0, .int .u8 0, .int .u8 0, .int .u8 0, .int .u8 0, .int .u8 0, .int .u8 0, .int .u8 0, .int .u8 0, .int .u8 0, .int .u8 0, .int .u8 0, .int .u8 0, .int .u8 0, .int .u8 0, .int .u8 0, .int .u8 0, .int .u8 0, .int .u8 0, .int .u8 0, .int .u8 0, .int .u8 0, .int .u8 0, .int .u8 0, .int .u8 0, .int .u8 0] HZ3.out (by rw [HI.out]; simp [nums, bytesOf_length, HS.out]) (by simp [nums, bytesOf_length, HS.out]) (by simp [nums, Value.oneCell']) ?_)
  repeat (first | go_step | go_upon)
  have hfin := blk_setRow HZ3.out (nums .u8 (bytesOf s)).toArray
  exact bodyPost_ret (v := .agg (nums .u8 (bytesOf s)).toArray) (results_cell_row rfl _ _ _ _ _ (0, 0) _ rfl hfin Tryd.underlying64 rfl (by rw [HI.out]; simp [nums, bytesOf_length, HS.out])) rfl ⟨rfl, below_setRow HB3.out (by omega) _⟩
set_option maxHeartbeats 8000000 in
set_option maxRecDepth 100000 in
/-- A piece of bytes. -/
theorem sparse_Write.piece (i : Int) (s : ByteArray) (hs : s.size = 64) (w : World) : Calls Tryd.prog 28 #[.agg (nums .u8 (bytesOf s)).toArray, .int .i64 i] w fun e w' => e = .returned (.agg #[.int .i64 i, .string s]) ∧ Below w.heap.size w w' := by
  have hl : (nums .u8 (bytesOf s)).toArray.size = 64 := by simp [nums, bytesOf_length, hs]
  have hcs : ∀ j, j < 64 → (nums .u8 (bytesOf s)).toArray[j]? = some (.int .u8 ((bytesOf s).getD j 0)) := by
    intro j hj
    have hj' : j < (bytesOf s).length := by rw [bytesOf_length]; omega
    simp [nums, List.getElem?_eq_getElem hj', List.getD]
  generalize (nums .u8 (bytesOf s)).toArray = CS at *
  have hb2 : Below w.heap.size w ((w.alloc (.cells CS 64)).alloc (.cells #[.int .i64 0, .string ⟨#[]⟩] 39)) := below_alloc (below_alloc (Below.refl _ _) _) _
  have hc : ∀ j, j < 64 → ((w.alloc (.cells CS 64)).alloc (.cells #[.int .i64 0, .string ⟨#[]⟩] 39)).cell? ⟨w.heap.size, 0 + j, none⟩ = some (.int .u8 ((bytesOf s).getD j 0)) := fun j hj => (blk_cell (blk_alloc (blk_new w _) _) _).trans (by rw [Nat.zero_add]; exact hcs j hj)
  have hz := blk_new (w.alloc (.cells CS 64)) (.cells #[.int .i64 0, .string ⟨#[]⟩] 39)
  have hsz : (w.alloc (.cells CS 64)).heap.size = w.heap.size + 1 := Array.size_push ..
  rw [hsz] at hz
  have hcv := run_convert_bytes_arg (P := Tryd.prog) ((w.alloc (.cells CS 64)).alloc (.cells #[.int .i64 0, .string ⟨#[]⟩] 39)) 66 5 Tryd.underlying66 Tryd.underlying5 w.heap.size 0 64 64 (bytesOf s) (by rw [bytesOf_length, hs]) hc 9 Tryd.underlying9
  rw [strOf_bytesOf] at hcv
  have HB2 := Aside0.mk hb2
  have HZ := Aside0.mk hz
  clear hb2 hz hsz hc
  go_enter Tryd.func28, Tryd.ntmps28
  go_upto_region 1 with (fail)
  generalize (w.alloc (.cells CS 64)).alloc (.cells #[.int .i64 0, .string ⟨#[]⟩] 39) = w2 at *
  have hu := Tryd.underlying64
  have hi2 : (Tryd.prog.info? 39).map (·.size) = some 2 := by kernel_rfl
  go_wp2_with (refine wpList_store_row rfl 39 (.tmp 4) (.tmp 8) rfl (w.heap.size + 1) #[.int .i64 i, .string s] rfl rfl 39 #[.int .i64 0, .string ⟨#[]⟩] HZ.out hi2 rfl (by simp [Value.oneCell']) ?_)
  have hfin := blk_setRow HZ.out #[.int .i64 i, .string s]
  exact bodyPost_ret (v := .agg #[.int .i64 i, .string s]) (results_cell_row rfl _ _ _ _ _ (0, 0) _ rfl hfin Tryd.underlying39 rfl hi2) rfl ⟨rfl, below_setRow HB2.out (by omega) _⟩
theorem sparse_Write.size2 : ∀ w, (sizeOf 39).run Tryd.prog w = .ok 2 w := by
  intro w
  have hi2 : (Tryd.prog.info? 39).map (·.size) = some 2 := by kernel_rfl
  cases hq : Tryd.prog.info? 39 with
  | none => rw [hq] at hi2; cases hi2
  | some i =>
    have h : i.size = 2 := by rw [hq] at hi2; simpa using hi2
    simp [sizeOf, typeInfo, hq, h]
set_option maxHeartbeats 8000000 in
set_option maxRecDepth 100000 in
/-- A piece is put in where there is room: in place. -/
theorem sparse_Write.shift (g n cap i vb : Nat) (cur p : List Value) (w : World) (hi : i < n) (hroom : n + 1 ≤ cap) (hc63 : cap ≤ maxLen) (hg : w.heap[g]? = some (.cells cur.toArray 39 (0, 0))) (hcl : cur.length = cap * 2)
    (hv : w.heap[vb]? = some (.cells p.toArray 39 (0, 0))) (hp : p.length = 2) (h1 : ∀ v ∈ (cur.drop (i * 2)).take ((n - i) * 2), v.oneCell' = true) (h1p : ∀ v ∈ p, v.oneCell' = true) (hne : vb ≠ g) :
    Calls Tryd.prog 29 #[.slice (some ⟨g, 0, none⟩) n cap, .int .i64 i, .slice (some ⟨vb, 0, none⟩) 1 1] w fun e w' =>
      e = .returned (.slice (some ⟨g, 0, none⟩) (n + 1) cap) ∧ w' = (w.drew.setRow g (splice cur ((i + 1) * 2) ((cur.drop (i * 2)).take ((n - i) * 2))).toArray).setRow g (splice (splice cur ((i + 1) * 2) ((cur.drop (i * 2)).take ((n - i) * 2))) (i * 2) p).toArray := by
  have hov : ∀ lb cb, (callFunc 38 #[.slice (some ⟨vb, 0, none⟩) 1 1, .slice (some ⟨g, (i + 1) * 2, none⟩) lb cb]).run Tryd.prog w = .ok (.value (.bool false)) w := fun lb cb => by
    rw [run_callFunc_extern Tryd.func38 (by kernel_rfl) (by kernel_rfl) (by kernel_rfl) (e := Extern.SlicesOverlaps.overlaps #[22, 22] #[4]) (by kernel_rfl),
      Lib.run_overlaps_apart w 22 4 39 Tryd.underlying22 2 sparse_Write.size2 ⟨vb, 0, none⟩ ⟨g, (i + 1) * 2, none⟩ 1 1 lb cb hne 39 39 2 (cap * 2) (by simp [World.shape?, hv, hp]) (by simp [World.shape?, hg, hcl]) (by omega) (by simp [World.frozen?, hv]) (by simp [World.frozen?, hv])]
    rfl
  have hi2 : (Tryd.prog.info? 39).map (·.size) = some 2 := by kernel_rfl
  have hcell : ∀ j v, cur[j]? = some v → w.drew.cell? ⟨g, j, none⟩ = some v := fun j v h => by
    show w.cell? ⟨g, j, none⟩ = some v
    rw [cell_of_row w g j _ _ _ hg]
    simpa using h
  have hcp1 : ∀ ty dc sc, (Builtin.copy_ #[22, 22] ty #[.slice (some ⟨g, (i + 1) * 2, none⟩) (n - i) dc, .slice (some ⟨g, i * 2, none⟩) (n + 1 - i) sc]).run Tryd.prog w.drew = .ok (goInt (Nat.min (n + 1 - i) (n - i))) (w.drew.setRow g (splice cur ((i + 1) * 2) ((cur.drop (i * 2)).take ((n - i) * 2))).toArray) := fun ty dc sc =>
    run_copy_rowN w.drew _ _ ty 39 2 g _ _ dc ⟨g, i * 2, none⟩ _ sc cur 39 _ Tryd.underlying22 hi2 hg (by rw [List.length_take, List.length_drop, hcl, show Nat.min (n + 1 - i) (n - i) = n - i by simp only [Nat.min_def]; split <;> omega]; omega)
      (fun j v hj => by
        rw [Addr.add_lit]
        rw [List.getElem?_take] at hj
        split at hj
        · exact hcell _ v (by rwa [List.getElem?_drop] at hj)
        · cases hj)
      (by rw [List.length_take, List.length_drop, hcl]; omega) h1
  obtain ⟨M, hM⟩ : ∃ M, M = splice cur ((i + 1) * 2) ((cur.drop (i * 2)).take ((n - i) * 2)) := ⟨_, rfl⟩
  have hMl : M.length = cap * 2 := by rw [hM, length_splice _ _ _ (by rw [List.length_take, List.length_drop, hcl]; omega), hcl]
  rw [← hM] at hcp1 ⊢
  obtain ⟨W1, hW1⟩ : ∃ W1, W1 = w.drew.setRow g M.toArray := ⟨_, rfl⟩
  have hgM : W1.heap[g]? = some (.cells M.toArray 39 (0, 0)) := by rw [hW1]; exact blk_setRow (w := w.drew) hg _
  have hvM : W1.heap[vb]? = some (.cells p.toArray 39 (0, 0)) := by rw [hW1]; exact (setRow_other w.drew g vb _ (by omega)).trans hv
  have hcp2 : ∀ ty dc, (Builtin.copy_ #[22, 22] ty #[.slice (some ⟨g, i * 2, none⟩) (n + 1 - i) dc, .slice (some ⟨vb, 0, none⟩) 1 1]).run Tryd.prog W1 = .ok (goInt (Nat.min 1 (n + 1 - i))) (W1.setRow g (splice M (i * 2) p).toArray) := fun ty dc =>
    run_copy_rowN W1 _ _ ty 39 2 g _ _ dc ⟨vb, 0, none⟩ _ 1 M 39 _ Tryd.underlying22 hi2 hgM (by rw [hp, show Nat.min 1 (n + 1 - i) = 1 by simp only [Nat.min_def]; split <;> omega])
      (fun j v hj => by
        rw [Addr.add_lit, Nat.zero_add, cell_of_row W1 vb j _ _ _ hvM]
        simpa using hj)
      (by rw [hp, hMl]; omega) h1p
  subst hW1
  have hz2 : ¬ ((i : Int) = (n : Int)) := by omega
  have hw1 : IntKind.i64.wrap ((i : Int) + 1) = (i : Int) + 1 := by rw [IntKind.wrap_i64]; unfold maxLen at hc63; omega
  have hw2 : IntKind.i64.wrap ((n : Int) + 1) = (n : Int) + 1 := by rw [IntKind.wrap_i64]; unfold maxLen at hc63; omega
  have hb1 : (0 : Int) ≤ (i : Int) + 1 := by omega
  have hin : i ≤ n := by omega
  have htn : ((i : Int) + 1).toNat = i + 1 := by omega
  have htn2 : ((n : Int) + 1).toNat = n + 1 := by omega
  have hb2 : ¬ (cap = i + 1) := by omega
  have hb3 : (i : Int) ≤ (n : Int) + 1 := by omega
  have hb4 : ¬ (cap = i) := by omega
  have hb5 : ¬ ((cap : Int) < (n : Int) + 1) := by omega
  have hc64 : (cap : Int) ≤ 9223372036854775807 := by unfold maxLen at hc63; omega
  clear hcell hgM hvM hMl hM hg hv h1 h1p hcl
  go_enter Tryd.func29, Tryd.ntmps29
  go_wp2_with (simp only [hov])
  go_region_law (refine step_copy_runN rfl _ _ 22 22 rfl _ _ (by simp [Act.eval, Act.put]) (by simp [Act.eval, Act.put]) (hcp1 _ _ _) ?_)
  go_wp2_with (at_builtin; refine wpList_copy_runN rfl _ _ 22 22 rfl _ _ rfl rfl (hcp2 _ _) ?_)
  go_ret
  exact ⟨rfl, rfl⟩
set_option maxHeartbeats 8000000 in
set_option maxRecDepth 100000 in
/-- A piece is put in where there is no room: in a new row. -/
theorem sparse_Write.grow (g n cap i vb : Nat) (cur p : List Value) (w : World) (hi : i < n) (hnc : n ≤ cap) (hroom : cap < n + 1) (hbig : (n + 1) * 24 ≤ 140737488355328) (hg : w.heap[g]? = some (.cells cur.toArray 39 (0, 0))) (hcl : cur.length = cap * 2)
    (hv : w.heap[vb]? = some (.cells p.toArray 39 (0, 0))) (hp : p.length = 2) (h1 : ∀ v ∈ (cur.drop (i * 2)).take ((n - i) * 2), v.oneCell' = true) (h1p : ∀ v ∈ p, v.oneCell' = true) :
    Calls Tryd.prog 29 #[.slice (some ⟨g, 0, none⟩) n cap, .int .i64 i, .slice (some ⟨vb, 0, none⟩) 1 1] w fun e w' =>
      ∃ (G : Nat) (R : List Value), e = .returned (.slice (some ⟨w.heap.size, 0, none⟩) (n + 1) G) ∧ n + 1 ≤ G ∧ G ≤ maxLen ∧ R.length = G * 2 ∧ w'.heap[w.heap.size]? = some (.cells (splice (splice R (i * 2) p) ((i + 1) * 2) ((cur.drop (i * 2)).take ((n - i) * 2))).toArray 39 (0, 0)) ∧ R.take (i * 2) = cur.take (i * 2) ∧ Below w.heap.size w w' := by
  obtain ⟨i0, hi0, hz0, hzs, hzb⟩ := info_parts info39
  have hi2 : (Tryd.prog.info? 39).map (·.size) = some 2 := by rw [hi0]; simp [hzs]
  have hbw : g < w.heap.size := blk_lt hg
  have hvw : vb < w.heap.size := blk_lt hv
  have hkk : (n : Int) + 1 - (i : Int) = ((n + 1 - i : Nat) : Int) := by omega
  have hik : i + (n + 1 - i) = n + 1 := by omega
  have hcell : ∀ j v, cur[j]? = some v → w.drew.cell? ⟨g, j, none⟩ = some v := fun j v h => by
    show w.cell? ⟨g, j, none⟩ = some v
    rw [cell_of_row w g j _ _ _ hg]
    simpa using h
  have hold : (Builtin.firstCells i0.size i (.slice (some ⟨g, 0, none⟩) i cap)).run Tryd.prog w.drew = .ok (cur.take (i * 2)).toArray w.drew := by
    rw [hzs]
    exact run_firstCells_some w.drew 2 i ⟨g, 0, none⟩ i cap (cur.take (i * 2)) (by rw [List.length_take]; omega) (fun j v hj => by
      rw [Addr.add_lit, Nat.zero_add]
      rw [List.getElem?_take] at hj
      split at hj
      · exact hcell j v hj
      · cases hj)
  obtain ⟨G, hG⟩ : ∃ G, G = grownCap w (n + 1) cap 39 := ⟨_, rfl⟩
  obtain ⟨ROW, hROW⟩ : ∃ ROW : List Value, ROW = ((cur.take (i * 2)).toArray ++ Builtin.zeroCells (Value.agg #[(.int .i64 0), (.string ⟨#[]⟩)]).cells (n + 1 - i) ++ Builtin.zeroCells (Value.agg #[(.int .i64 0), (.string ⟨#[]⟩)]).cells (G - (n + 1))).toList := ⟨_, rfl⟩
  have hrz : ∀ ty, (Builtin.append_ #[22, 3] ty #[.slice (some ⟨g, 0, none⟩) i cap, .int .i64 ((n : Int) + 1 - (i : Int))]).run Tryd.prog w =
      .ok (.slice (some ⟨w.heap.size, 0, none⟩) (n + 1) G) ((w.alloc (.cells ROW.toArray 39)).drew) := fun ty => by
    have h := Lib.run_append_grow_zeros w 22 3 ty 39 i0 _ .i64 .i64 Tryd.underlying22 Tryd.underlying3 hi0 hz0 (some ⟨g, 0, none⟩) i cap (cur.take (i * 2)) hold (n + 1 - i) (by omega) (by omega) (by omega) (by omega) (by rw [hzb]; omega) (by rw [hzb, hik]; exact growslice_fits hroom hbig)
    rw [hik, ← hG] at h
    rw [hkk, hROW, Array.toArray_toList]
    exact h
  have hGn : n + 1 ≤ G := by rw [hG]; exact grownCap_ge w _ _ _
  have hGm : G ≤ maxLen := by rw [hG]; exact grownCap_le_maxLen w (n + 1) cap 39 (by unfold maxLen; omega)
  have hRl : ROW.length = G * 2 := by
    rw [hROW]
    simp [Builtin.zeroCells, Value.cells, List.length_take, hcl]
    omega
  have hRt : ROW.take (i * 2) = cur.take (i * 2) := by
    rw [hROW]
    simp only [Array.toList_append, List.append_assoc]
    rw [List.take_append_of_le_length (by simp [hcl]; omega)]
    simp [List.take_take]
  have hcpA : ∀ (W : World), W.heap = (w.alloc (.cells ROW.toArray 39)).heap → ∀ ty dc, (Builtin.copy_ #[22, 22] ty #[.slice (some ⟨w.heap.size, i * 2, none⟩) (n + 1 - i) dc, .slice (some ⟨vb, 0, none⟩) 1 1]).run Tryd.prog W = .ok (goInt (Nat.min 1 (n + 1 - i))) (W.setRow w.heap.size (splice ROW (i * 2) p).toArray) := fun W hW ty dc =>
    run_copy_rowN W _ _ ty 39 2 _ _ _ dc ⟨vb, 0, none⟩ _ 1 ROW 39 _ Tryd.underlying22 hi2 (by rw [hW]; exact blk_new w _) (by rw [hp, show Nat.min 1 (n + 1 - i) = 1 by simp only [Nat.min_def]; split <;> omega])
      (fun j v hj => by
        rw [Addr.add_lit, Nat.zero_add, cell_of_row W vb j _ _ _ (by rw [hW]; exact blk_alloc hv _)]
        simpa using hj)
      (by rw [hp, hRl]; omega) h1p
  have hMl : (splice ROW (i * 2) p).length = G * 2 := by rw [length_splice _ _ _ (by rw [hp, hRl]; omega), hRl]
  have hcpB : ∀ (W : World), W.heap = ((w.alloc (.cells ROW.toArray 39)).setRow w.heap.size (splice ROW (i * 2) p).toArray).heap → ∀ ty dc sc, (Builtin.copy_ #[22, 22] ty #[.slice (some ⟨w.heap.size, (i + 1) * 2, none⟩) (n - i) dc, .slice (some ⟨g, i * 2, none⟩) (n - i) sc]).run Tryd.prog W = .ok (goInt (Nat.min (n - i) (n - i))) (W.setRow w.heap.size (splice (splice ROW (i * 2) p) ((i + 1) * 2) ((cur.drop (i * 2)).take ((n - i) * 2))).toArray) := fun W hW ty dc sc =>
    run_copy_rowN W _ _ ty 39 2 _ _ _ dc ⟨g, i * 2, none⟩ _ sc (splice ROW (i * 2) p) 39 _ Tryd.underlying22 hi2 (by rw [hW]; exact blk_setRow (blk_new w _) _) (by rw [List.length_take, List.length_drop, hcl, show Nat.min (n - i) (n - i) = n - i from Nat.min_self _]; omega)
      (fun j v hj => by
        rw [Addr.add_lit, cell_of_row W g _ _ _ _ (by rw [hW]; exact (setRow_other _ _ _ _ (by omega)).trans (blk_alloc hg _))]
        rw [List.getElem?_take] at hj
        split at hj
        · rw [List.getElem?_drop] at hj
          simpa using hj
        · cases hj)
      (by rw [List.length_take, List.length_drop, hcl, hMl]; omega) h1
  have hbl : Below w.heap.size w (((w.alloc (.cells ROW.toArray 39)).setRow w.heap.size (splice ROW (i * 2) p).toArray).setRow w.heap.size (splice (splice ROW (i * 2) p) ((i + 1) * 2) ((cur.drop (i * 2)).take ((n - i) * 2))).toArray) := below_setRow (below_setRow (below_alloc (Below.refl _ _) _) (Nat.le_refl _) _) (Nat.le_refl _) _
  have hfin : (((w.alloc (.cells ROW.toArray 39)).setRow w.heap.size (splice ROW (i * 2) p).toArray).setRow w.heap.size (splice (splice ROW (i * 2) p) ((i + 1) * 2) ((cur.drop (i * 2)).take ((n - i) * 2))).toArray).heap[w.heap.size]? = some (.cells (splice (splice ROW (i * 2) p) ((i + 1) * 2) ((cur.drop (i * 2)).take ((n - i) * 2))).toArray 39 (0, 0)) := blk_setRow (blk_setRow (blk_new w _) _) _
  generalize hRB : splice (splice ROW (i * 2) p) ((i + 1) * 2) ((cur.drop (i * 2)).take ((n - i) * 2)) = RB at *
  have HRB := Aside0.mk hRB
  clear hRB
  generalize hRA : splice ROW (i * 2) p = RA at *
  have hz2 : ¬ ((i : Int) = (n : Int)) := by omega
  have hz3 : (cap : Int) < (n : Int) + 1 := by omega
  have hw1 : IntKind.i64.wrap ((i : Int) + 1) = (i : Int) + 1 := by rw [IntKind.wrap_i64]; omega
  have hw2 : IntKind.i64.wrap ((n : Int) + 1) = (n : Int) + 1 := by rw [IntKind.wrap_i64]; omega
  have hw3 : IntKind.i64.wrap ((n : Int) + 1 - (i : Int)) = (n : Int) + 1 - (i : Int) := by rw [IntKind.wrap_i64]; omega
  have hb1 : (0 : Int) ≤ (i : Int) + 1 := by omega
  have hin : i ≤ n := by omega
  have htn : ((i : Int) + 1).toNat = i + 1 := by omega
  have hGi : ¬ (G = i) := by omega
  have hGim : ¬ (G = i + 1) := by omega
  have hci : ¬ (cap = i) := by omega
  have hb3 : (i : Int) ≤ (n : Int) := by omega
  have hb4 : (i : Int) ≤ (cap : Int) := by omega
  have hG63 : (G : Int) ≤ 9223372036854775807 := by unfold maxLen at hGm; omega
  have HF := Aside0.mk hfin
  have HB := Aside0.mk hbl
  have HR := Aside0.mk hRl
  have HT := Aside0.mk hRt
  have HM := Aside0.mk hGm
  clear hkk hik hold hROW hG hRl hRt hcell hMl hbl hfin hGm hbig hi0 hz0 hzs hzb hcl h1 h1p hg hv
  go_enter Tryd.func29, Tryd.ntmps29
  have hA3 := hcpA (w.alloc (.cells ROW.toArray 39)).drew rfl 3 (G - i)
  go_wp2_with (at_builtin; refine Lib.wpList_append_run _ rfl _ _ _ _ rfl _ _ rfl rfl _ _ (hrz _) ?_)
  have hB3 := hcpB ((w.alloc (.cells ROW.toArray 39)).drew.setRow w.heap.size RA.toArray).drew rfl 3 (G - (i + 1)) (cap - i)
  go_region
  go_wp2
  go_ret
  exact ⟨G, ROW, rfl, hGn, HM.out, HR.out, (by have h2 := HRB.out; rw [hRA, h2]; exact HF.out), HT.out, ⟨HB.out.os, HB.out.tape, HB.out.output, HB.out.size, HB.out.block⟩⟩
set_option maxHeartbeats 8000000 in
set_option maxRecDepth 100000 in
/-- A piece is put at the end. -/
theorem sparse_Write.last (base : Nat) (v : Value) (xs : List S39) (p : S39) (vb : Nat) (w0 w : World) (hlen : (xs.length + 1) * 24 ≤ 140737488355328) (HO : Kd.R k39 39 w base (fun _ => True) v xs) (HB : Below base w0 w) (hbase : base ≤ w.heap.size)
    (hv : w.heap[vb]? = some (.cells #[.int .i64 p.f0, .string p.f1] 39 (0, 0))) :
    Calls Tryd.prog 29 #[v, .int .i64 xs.length, .slice (some ⟨vb, 0, none⟩) 1 1] w fun e w' => ∃ v', e = .returned v' ∧ Kd.R k39 39 w' base (fun _ => True) v' (xs ++ [p]) ∧ Below base w0 w' := by
  have HC : Kd.C k39 w (some ⟨vb, 0, none⟩) 1 [p] := by
    refine ⟨rfl, by omega, fun _ => ⟨_, rfl, fun j q hj => ?_⟩⟩
    have hj0 : j = 0 := by
      have := (List.getElem?_eq_some_iff.1 hj).1
      simpa using this
    subst hj0
    obtain rfl : p = q := by simpa using hj
    refine ⟨[.int .i64 p.f0, .string p.f1], rfl, k39_mk w p, fun i u hu => ?_⟩
    rw [Addr.add_lit, cell_of_row w vb _ _ _ _ hv]
    simpa using hu
  have HO1 := Aside0.mk HO
  have HB1 := Aside0.mk HB
  have HC1 := Aside0.mk HC
  have HL1 := Aside0.mk hlen
  obtain ⟨_, inner, ⟨hl, hown⟩, hr⟩ := HO
  have hc63 : (xs.length : Int) ≤ 9223372036854775807 := by omega
  have hc64 : (0 : Int) ≤ xs.length := by omega
  clear hr HB HC hv
  rcases hown with ⟨rfl, h0⟩ | ⟨g, cap, cur, rfl, hbg, hg, hnc, hcm, hcs, htk⟩
  · clear hl
    generalize hN : xs.length = N at *
    subst h0
    go_enter Tryd.func29, Tryd.ntmps29
    go_wp2_with (first
      | ((with_reducible refine gate_builtin (b := .append) (xs := #[.tmp 23, .tmp 24]) rfl ?_); at_builtin; refine Kd.R_append_rows k39 (w0 := w0) base rfl (.tmp 23) (.tmp 24) 22 39 (.agg #[(.int .i64 0), (.string ⟨#[]⟩)]) 24 rfl Tryd.underlying22 info39 rfl (by decide) (by omega) _ xs [p] _ _ _ (fun _ => True) (fun _ => False) rfl rfl ?aO ?aR (fun _ _ h => h) (fun _ h => h.elim) (fun _ _ => trivial) ?aB hbase ?aL ?_
         case aR => exact HC1.out
         case aB => exact HB1.out
         case aO => exact HO1.out
         case aL => have h1 := HL1.out; omega
         intro v2 w5 ho hb hg hat
         have HO2 := Aside0.mk ho
         have HB2 := Aside0.mk hb
         clear ho hb hg hat))
    all_goals (go_ret; exact ⟨_, rfl, HO2.out, HB2.out⟩)
  · have hcap : (cap : Int) ≤ 9223372036854775807 := by unfold maxLen at hcm; omega
    clear hl hg hcs htk hcm
    go_enter Tryd.func29, Tryd.ntmps29
    go_wp2_with (first
      | ((with_reducible refine gate_builtin (b := .append) (xs := #[.tmp 23, .tmp 24]) rfl ?_); at_builtin; refine Kd.R_append_rows k39 (w0 := w0) base rfl (.tmp 23) (.tmp 24) 22 39 (.agg #[(.int .i64 0), (.string ⟨#[]⟩)]) 24 rfl Tryd.underlying22 info39 rfl (by decide) (by omega) _ xs [p] _ _ _ (fun _ => True) (fun _ => False) rfl rfl ?aO ?aR (fun _ _ h => h) (fun _ h => h.elim) (fun _ _ => trivial) ?aB hbase ?aL ?_
         case aR => exact HC1.out
         case aB => exact HB1.out
         case aO => exact HO1.out
         case aL => have h1 := HL1.out; omega
         intro v2 w5 ho hb hg hat
         have HO2 := Aside0.mk ho
         have HB2 := Aside0.mk hb
         clear ho hb hg hat))
    all_goals (go_ret; exact ⟨_, rfl, HO2.out, HB2.out⟩)
theorem sparse_Write.take3 {α : Type} (A p B T : List α) (m : Nat) (hm : m = (A ++ (p ++ B)).length) : (A ++ (p ++ (B ++ T))).toArray.toList.take m = A ++ (p ++ B) := by
  subst hm
  rw [List.toList_toArray, show A ++ (p ++ (B ++ T)) = (A ++ (p ++ B)) ++ T by simp only [List.append_assoc], List.take_left]
/-- A piece's cells: every one is one cell. -/
theorem sparse_Write.ones {w : World} {base : Nat} {ok : Nat → Prop} {xs : List S39} {inner : List Value} (h : Reps (k39.M w base ok) 2 xs inner) : ∀ u ∈ inner, u.oneCell' = true := by
  intro u hu
  obtain ⟨j, hj, rfl⟩ := List.mem_iff_getElem.1 hu
  have hl := h.1
  have hq : j / 2 < xs.length := by omega
  have hm := h.2 (j / 2) _ (List.getElem?_eq_getElem hq)
  refine k39.K_one (k39.K_of_M hm) _ ?_
  have e : ((inner.drop (j / 2 * 2)).take 2)[j % 2]? = some inner[j] := by
    rw [List.getElem?_take_of_lt (Nat.mod_lt _ (by omega)), List.getElem?_drop, show j / 2 * 2 + j % 2 = j by omega]
    exact List.getElem?_eq_getElem hj
  exact List.mem_of_getElem? e
theorem sparse_Write.anyR {w w' : World} {base : Nat} {ok ok' : Nat → Prop} {xs : List S39} {inner : List Value} (h : Reps (k39.M w base ok) 2 xs inner) : Reps (k39.M w' base ok') 2 xs inner :=
  h.imp_ (fun q c hq => by
    obtain rfl := k39_openM hq
    exact k39_mkM w' base ok' q)
/-- A piece is put in at i. -/
theorem sparse_Write.insert (base : Nat) (v : Value) (xs : List S39) (p : S39) (i vb : Nat) (w0 w : World) (hi : i ≤ xs.length) (hlen : (xs.length + 1) * 24 ≤ 140737488355328) (HO : Kd.R k39 39 w base (fun _ => True) v xs) (HB : Below base w0 w) (hbase : base ≤ w.heap.size)
    (hv : w.heap[vb]? = some (.cells #[.int .i64 p.f0, .string p.f1] 39 (0, 0))) (hne : v.ownBlock ≠ some vb) :
    Calls Tryd.prog 29 #[v, .int .i64 i, .slice (some ⟨vb, 0, none⟩) 1 1] w fun e w' => ∃ v', e = .returned v' ∧ Kd.R k39 39 w' base (fun _ => True) v' (xs.take i ++ p :: xs.drop i) ∧ Below base w0 w' := by
  rcases Nat.lt_or_ge i xs.length with hin | hge
  case inr =>
    obtain rfl : i = xs.length := by omega
    rw [List.take_length, List.drop_length]
    exact sparse_Write.last base v xs p vb w0 w hlen HO HB hbase hv
  obtain ⟨_, inner, ⟨hl, hown⟩, hr⟩ := HO
  rcases hown with ⟨_, h0⟩ | ⟨g, cap, cur, rfl, hbg, hg, hnc, hcm, hcs, htk⟩
  · omega
  have hr2 := sparse_Write.anyR (w' := w) (ok' := fun _ => True) hr
  have hl2 : inner.length = xs.length * 2 := hl
  have htk2 : cur.toList.take (xs.length * 2) = inner := htk
  have hcs2 : cur.toList.length = cap * 2 := by rw [Array.length_toList]; exact hcs
  have hone := sparse_Write.ones hr2
  have hinn := reps_insert hr2 (c := [.int .i64 p.f0, .string p.f1]) (k39_mkM w base (fun _ => True) p) rfl i hi
  have hA : (inner.take (i * 2)).length = i * 2 := by rw [List.length_take]; omega
  have hB : (inner.drop (i * 2)).length = (xs.length - i) * 2 := by rw [List.length_drop, hl2]; omega
  have hcur : cur.toList = inner.take (i * 2) ++ (inner.drop (i * 2) ++ cur.toList.drop (xs.length * 2)) := by
    rw [← List.append_assoc, List.take_append_drop, ← htk2, List.take_append_drop]
  have hmid : (cur.toList.drop (i * 2)).take ((xs.length - i) * 2) = inner.drop (i * 2) := by
    rw [← htk2, List.drop_take]
    congr 1
    omega
  have hcA : cur.toList.take (i * 2) = inner.take (i * 2) := by rw [← htk2, List.take_take, Nat.min_eq_left (by omega)]
  have hg' : w.heap[g]? = some (.cells cur.toList.toArray 39 (0, 0)) := by rw [Array.toArray_toList]; exact hg
  have hne' : vb ≠ g := fun e => hne (by rw [e]; rfl)
  have h1m : ∀ u ∈ (cur.toList.drop (i * 2)).take ((xs.length - i) * 2), u.oneCell' = true := by
    rw [hmid]
    exact fun u hu => hone u (List.mem_of_mem_drop hu)
  have h1p : ∀ u ∈ [Value.int .i64 p.f0, .string p.f1], u.oneCell' = true := by
    intro u hu
    simp only [List.mem_cons, List.not_mem_nil, or_false] at hu
    rcases hu with rfl | rfl <;> rfl
  have hlx : (xs.take i ++ p :: xs.drop i).length = xs.length + 1 := by rw [List.length_append, List.length_cons, List.length_take, List.length_drop]; omega
  rcases Nat.lt_or_ge cap (xs.length + 1) with hroom | hroom
  · refine (sparse_Write.grow g xs.length cap i vb cur.toList _ w hin hnc hroom hlen hg' hcs2 hv rfl h1m h1p).mono ?_
    rintro e w' ⟨G, R, rfl, hG1, hG2, hR1, hheap, hR2, hbl⟩
    rw [hmid, ← List.take_append_drop (i * 2) R, hR2, hcA, show (i + 1) * 2 = (inner.take (i * 2)).length + 2 by omega] at hheap
    have hs := splice_grow (inner.take (i * 2)) (R.drop (i * 2)) [Value.int .i64 p.f0, .string p.f1] (inner.drop (i * 2)) rfl
    rw [hA] at hs hheap
    rw [hs] at hheap
    refine ⟨_, rfl, ⟨fun _ _ => trivial, _, ⟨?_, .inr ⟨w.heap.size, G, _, ?_, hbase, hheap, ?_, hG2, ?_, ?_⟩⟩, sparse_Write.anyR hinn⟩, ?_⟩
    · exact hinn.1
    · rw [hlx]
    · rw [hlx]; exact hG1
    · show _ = G * 2
      simp only [List.size_toArray, List.length_append, List.length_drop, List.length_cons, List.length_nil]
      rw [hA, hR1, hl2]
      omega
    · rw [hlx]
      refine sparse_Write.take3 _ _ _ _ _ ?_
      rw [List.length_append, List.length_append, hA, hB]
      show (xs.length + 1) * 2 = i * 2 + (2 + (xs.length - i) * 2)
      omega
    · exact HB.trans ⟨hbl.os, hbl.tape, hbl.output, hbl.size, fun k hk => hbl.block k (Nat.lt_of_lt_of_le hk hbase)⟩
  · refine (sparse_Write.shift g xs.length cap i vb cur.toList _ w hin hroom hcm hg' hcs2 hv rfl h1m h1p hne').mono ?_
    rintro e w' ⟨rfl, hw⟩
    rw [hmid] at hw
    have hC : 2 ≤ (cur.toList.drop (xs.length * 2)).length := by rw [List.length_drop, hcs2]; omega
    have hs := splice_shift (inner.take (i * 2)) (inner.drop (i * 2)) (cur.toList.drop (xs.length * 2)) [Value.int .i64 p.f0, .string p.f1] rfl hC
    rw [← hcur, hA, show i * 2 + 2 = (i + 1) * 2 by omega] at hs
    rw [hs] at hw
    have hheap : w'.heap[g]? = some (.cells (inner.take (i * 2) ++ ([Value.int .i64 p.f0, .string p.f1] ++ (inner.drop (i * 2) ++ (cur.toList.drop (xs.length * 2)).drop 2))).toArray 39 (0, 0)) := by
      rw [hw]
      exact blk_setRow (blk_setRow (w := w.drew) hg _) _
    refine ⟨_, rfl, ⟨fun _ _ => trivial, _, ⟨?_, .inr ⟨g, cap, _, ?_, hbg, hheap, ?_, hcm, ?_, ?_⟩⟩, sparse_Write.anyR hinn⟩, ?_⟩
    · exact hinn.1
    · rw [hlx]
    · rw [hlx]; exact hroom
    · show _ = cap * 2
      simp only [List.size_toArray, List.length_append, List.length_drop, List.length_cons, List.length_nil]
      rw [hA, hcs2, hl2]
      omega
    · rw [hlx]
      refine sparse_Write.take3 _ _ _ _ _ ?_
      rw [List.length_append, List.length_append, hA, hB]
      show (xs.length + 1) * 2 = i * 2 + (2 + (xs.length - i) * 2)
      omega
    · rw [hw]
      exact below_setRow (below_setRow (below_drew HB) hbg _) hbg _
/-- A text laid over a piece's bytes. -/
def sparse_Write.lay (b : ByteArray) (skip : Nat) (d : ByteArray) : ByteArray := ⟨(splice b.data.toList skip (d.data.toList.take (Nat.min d.size (64 - skip)))).toArray⟩
def sparse_Write.zero : ByteArray := ⟨(List.replicate 64 (0 : UInt8)).toArray⟩
theorem sparse_Write.lay_cells (b : ByteArray) (skip : Nat) (d : ByteArray) : splice (nums .u8 (bytesOf b)) skip ((nums .u8 (bytesOf d)).take (Nat.min d.size (64 - skip))) = nums .u8 (bytesOf (sparse_Write.lay b skip d)) := by
  unfold sparse_Write.lay nums bytesOf splice
  simp [List.map_take, List.map_drop, List.map_append]
theorem sparse_Write.lay_size (b : ByteArray) (skip : Nat) (d : ByteArray) (hb : b.size = 64) (hs : skip ≤ 64) : (sparse_Write.lay b skip d).size = 64 := by
  have h0 : b.data.toList.length = 64 := by rw [Array.length_toList]; exact hb
  have h1 : d.data.toList.length = d.size := by rw [Array.length_toList]; rfl
  have h2 : (d.data.toList.take (Nat.min d.size (64 - skip))).length = Nat.min d.size (64 - skip) := by rw [List.length_take, h1]; exact Nat.min_eq_left (Nat.min_le_left _ _)
  have h3 : Nat.min d.size (64 - skip) ≤ 64 - skip := Nat.min_le_right _ _
  show (splice _ _ _).toArray.size = 64
  rw [List.size_toArray, length_splice _ _ _ (by rw [h2, h0]; omega), h0]
theorem sparse_Write.zero_size : sparse_Write.zero.size = 64 := by
  show (List.replicate 64 (0 : UInt8)).toArray.size = 64
  simp
def sparse_Write.put (out : List S39) (i : Int) (is : Bool) (p : S39) : List S39 := if is = true then out.set i.toNat p else out.take i.toNat ++ p :: out.drop i.toNat
def sparse_Write.ok (out : List S39) (i : Int) (is : Bool) : Prop := 0 ≤ i ∧ i ≤ (out.length : Int) ∧ (is = true → i < (out.length : Int) ∧ (rd_T39 out i).f1.size = 64) ∧ (out.length + 1) * 24 ≤ 140737488355328
instance (out : List S39) (i : Int) (is : Bool) : Decidable (sparse_Write.ok out i is) := by unfold sparse_Write.ok; infer_instance
def sparse_Write.rest (off : Int) (data : ByteArray) (pos : Int) : ByteArray := data.extract (pos - off).toNat data.size
def sparse_Write.got (out : List S39) (i : Int) (is : Bool) : ByteArray := if is = true then (rd_T39 out i).f1 else sparse_Write.zero
def sparse_Write.l0 (k : Nat) (off : Int) (data : ByteArray) : Nat → Int → List S39 → Option (List S39)
  | 0, _, _ => none
  | m + 1, pos, out => if pos < off + (data.size : Int) then
      (sparse_find.f k out (Int.tdiv pos 64)).bind fun t => if sparse_Write.ok out t.1 t.2 then
        sparse_Write.l0 k off data m (pos + (Nat.min (sparse_Write.rest off data pos).size (64 - (Int.tmod pos 64).toNat) : Nat)) (sparse_Write.put out t.1 t.2 ⟨Int.tdiv pos 64, sparse_Write.lay (sparse_Write.got out t.1 t.2) (Int.tmod pos 64).toNat (sparse_Write.rest off data pos)⟩)
      else none
    else some out
def sparse_Write.f (k : Nat) (l0 : List S39) (a1 a2 : Int) (a3 : ByteArray) : Option (List S39 × Int × Int) :=
  (sparse_Check.f k l0 a1).bind fun e => if e ≠ 0 then some ([], 0, e) else if a2 < 0 ∨ (a3.size : Int) > 4096 then some ([], 0, 1) else if a2 > 4611686018427387904 - (a3.size : Int) then some ([], 0, 130) else
    if 0 ≤ a1 ∧ a1 ≤ 4611686018427387904 then (slices_Clone_Piece.f l0).bind fun out => (sparse_Write.l0 k a2 a3 k a2 out).bind fun o => some (o, if a3.size = 0 then a1 else max a1 (a2 + (a3.size : Int)), 0) else none
theorem sparse_Write.l0_mono_k (off : Int) (data : ByteArray) (k : Nat) : ∀ m pos out, LeO (sparse_Write.l0 k off data m pos out) (sparse_Write.l0 (k + 1) off data m pos out)
  | 0 => fun _ _ => LeO.refl _
  | m + 1 => fun pos out => by
    unfold sparse_Write.l0
    refine LeO.ite ?_ (LeO.refl _)
    refine LeO.bind (sparse_find.mono _ _ _) (fun t => ?_)
    exact LeO.ite (sparse_Write.l0_mono_k off data k m _ _) (LeO.refl _)
theorem sparse_Write.l0_mono_m (off : Int) (data : ByteArray) (k : Nat) : ∀ m pos out, LeO (sparse_Write.l0 k off data m pos out) (sparse_Write.l0 k off data (m + 1) pos out)
  | 0 => fun _ _ r h => by simp [sparse_Write.l0] at h
  | m + 1 => fun pos out => by
    rw [sparse_Write.l0, sparse_Write.l0]
    refine LeO.ite ?_ (LeO.refl _)
    refine LeO.bind (LeO.refl _) (fun t => ?_)
    exact LeO.ite (sparse_Write.l0_mono_m off data k m _ _) (LeO.refl _)
theorem sparse_Write.mono : ∀ a0 a1 a2 a3 k, LeO (sparse_Write.f k a0 a1 a2 a3) (sparse_Write.f (k + 1) a0 a1 a2 a3) := by
  intro a0 a1 a2 a3 k
  unfold sparse_Write.f
  refine LeO.bind (sparse_Check.mono _ _ _) (fun e => ?_)
  refine LeO.ite (LeO.refl _) (LeO.ite (LeO.refl _) (LeO.ite (LeO.refl _) (LeO.ite ?_ (LeO.refl _))))
  refine LeO.bind (LeO.refl _) (fun out => LeO.bind ?_ (fun _ => LeO.refl _))
  exact fun r h => sparse_Write.l0_mono_k _ _ _ _ _ _ r (sparse_Write.l0_mono_m _ _ _ _ _ _ r h)
theorem sparse_Write.thaw {W : World} {base g n c : Nat} {ok : Nat → Prop} {xs : List S39} (h : Kd.R k39 39 W base ok (.slice (some ⟨g, 0, none⟩) n c) xs) (j : Nat) : W.frozen? ⟨g, j, none⟩ = false := by
  obtain ⟨inner, _, hh⟩ := Kd.R_own h
  rcases hh with ⟨hv, _⟩ | ⟨g', cap', cur, hv, _, hg, _⟩
  · cases hv
  · cases hv
    simp [World.frozen?, hg]
set_option maxHeartbeats 8000000 in
set_option maxRecDepth 100000 in
theorem sparse_Write.calls (k : Nat) (A0 : Option Addr) (c0 : Nat) (l0 : List S39) (a1 a2 : Int) (a3 : ByteArray) (r1 : List S39) (r2 r3 : Int) (w : World) (hr0 : Kd.C k39 w A0 l0.length l0) (hc0 : l0.length ≤ c0) (h : sparse_Write.f k l0 a1 a2 a3 = some (r1, r2, r3)) :
    Calls Tryd.prog 11 #[.slice A0 l0.length c0, .int .i64 a1, .int .i64 a2, .string a3] w fun e w' => ∃ v0_ : Value, e = .returned (.tuple #[v0_, .int .i64 r2, .int .i64 r3]) ∧ Kd.R k39 39 w' w.heap.size (fun _ => True) v0_ r1 ∧ Below w.heap.size w w' := by
  unfold sparse_Write.f at h
  obtain ⟨ec, hec, h⟩ := Option.bind_eq_some_iff.1 h
  have HEC := Aside0.mk hec
  have HR0 := Aside0.mk hr0
  have HC0 := Aside0.mk hc0
  have HU := Aside0.mk (Below.refl w.heap.size w)
  clear hec hr0 hc0
  split at h
  case isTrue hne =>
    obtain ⟨rfl, rfl, rfl⟩ : r1 = [] ∧ r2 = 0 ∧ r3 = ec := by simpa [eq_comm] using h
    clear h
    have hn : ¬ (r3 = 0) := hne
    go_enter Tryd.func11, Tryd.ntmps11
    go_wp2_with (go_at_call 15; (with_reducible refine (sparse_Check.calls k A0 c0 l0 a1 _ _ HR0.out HC0.out HEC.out).mono ?_); rintro e w1 ⟨rfl, hb⟩; have HB := Aside0.mk hb; clear hb)
    go_ret3
    exact ⟨_, rfl, Kd.R_nil _ _ _ _ _, HB.out⟩
  case isFalse he0 =>
    obtain rfl : ec = 0 := by
      by_cases h0 : ec = 0
      · exact h0
      · exact absurd h0 he0
    clear he0
    split at h
    case isTrue hne =>
      obtain ⟨rfl, rfl, rfl⟩ : r1 = [] ∧ r2 = 0 ∧ r3 = 1 := by simpa [eq_comm] using h
      clear h
      rcases hne with hne | hne
      · have d1 : decide (a2 < 0) = true := decide_eq_true hne
        go_enter Tryd.func11, Tryd.ntmps11
        go_wp2_with (go_at_call 15; (with_reducible refine (sparse_Check.calls k A0 c0 l0 a1 _ _ HR0.out HC0.out HEC.out).mono ?_); rintro e w1 ⟨rfl, hb⟩; have HB := Aside0.mk hb; clear hb)
        go_ret3
        exact ⟨_, rfl, Kd.R_nil _ _ _ _ _, HB.out⟩
      · have d2 : decide ((a3.size : Int) > 4096) = true := decide_eq_true hne
        by_cases hlt : a2 < 0
        · have d1 : decide (a2 < 0) = true := decide_eq_true hlt
          go_enter Tryd.func11, Tryd.ntmps11
          go_wp2_with (go_at_call 15; (with_reducible refine (sparse_Check.calls k A0 c0 l0 a1 _ _ HR0.out HC0.out HEC.out).mono ?_); rintro e w1 ⟨rfl, hb⟩; have HB := Aside0.mk hb; clear hb)
          go_ret3
          exact ⟨_, rfl, Kd.R_nil _ _ _ _ _, HB.out⟩
        · have d1 : decide (a2 < 0) = false := decide_eq_false hlt
          go_enter Tryd.func11, Tryd.ntmps11
          go_wp2_with (go_at_call 15; (with_reducible refine (sparse_Check.calls k A0 c0 l0 a1 _ _ HR0.out HC0.out HEC.out).mono ?_); rintro e w1 ⟨rfl, hb⟩; have HB := Aside0.mk hb; clear hb)
          all_goals
            go_ret3
            exact ⟨_, rfl, Kd.R_nil _ _ _ _ _, HB.out⟩
    case isFalse hok =>
      have p0 : 0 ≤ a2 := by omega
      have p1 : (a3.size : Int) ≤ 4096 := by omega
      have d1 : decide (a2 < 0) = false := decide_eq_false (by omega)
      have d2 : decide ((a3.size : Int) > 4096) = false := decide_eq_false (by omega)
      have e1 : IntKind.i64.wrap (4611686018427387904 - (a3.size : Int)) = 4611686018427387904 - (a3.size : Int) := by rw [IntKind.wrap_i64]; omega
      clear hok
      split at h
      case isTrue hgt =>
        obtain ⟨rfl, rfl, rfl⟩ : r1 = [] ∧ r2 = 0 ∧ r3 = 130 := by simpa [eq_comm] using h
        clear h
        have d3 : decide (a2 > 4611686018427387904 - (a3.size : Int)) = true := decide_eq_true hgt
        go_enter Tryd.func11, Tryd.ntmps11
        go_wp2_with (go_at_call 15; (with_reducible refine (sparse_Check.calls k A0 c0 l0 a1 _ _ HR0.out HC0.out HEC.out).mono ?_); rintro e w1 ⟨rfl, hb⟩; have HB := Aside0.mk hb; clear hb)
        go_ret3
        exact ⟨_, rfl, Kd.R_nil _ _ _ _ _, HB.out⟩
      case isFalse hle =>
        have d3 : decide (a2 > 4611686018427387904 - (a3.size : Int)) = false := decide_eq_false hle
        split at h
        case isFalse => cases h
        case isTrue hsz =>
        obtain ⟨out, hout, h⟩ := Option.bind_eq_some_iff.1 h
        obtain ⟨o, ho, h⟩ := Option.bind_eq_some_iff.1 h
        have HOUT := Aside0.mk hout
        have HLP := Aside0.mk ho
        have HFIN := Aside0.mk h
        have e2 : IntKind.i64.wrap (a2 + (a3.size : Int)) = a2 + (a3.size : Int) := by rw [IntKind.wrap_i64]; omega
        clear hout ho h
        go_enter Tryd.func11, Tryd.ntmps11
        go_wp2_with (first
          | (go_at_call 15; (with_reducible refine (sparse_Check.calls k A0 c0 l0 a1 _ _ HR0.out HC0.out HEC.out).mono ?_); rintro e w1 ⟨rfl, hb⟩; have HB := Aside0.mk hb; clear hb)
          | (go_at_call 25; (with_reducible refine (slices_Clone_Piece.calls A0 c0 l0 out _ (Kd.C_below HR0.out HB.out) HC0.out HOUT.out).mono ?_); rintro e w2 ⟨v2, rfl, hr2, hb2⟩; have HR2 := Aside0.mk (Kd.R_lower hr2 (below_size HB.out)); have HB2 := Aside0.mk (below_step HB.out hb2); clear hr2 hb2))
        go_loopg [13, 15] k (fun kq v13 v15 w' => ∃ (xs : List S39) (pos : Int) (wr : World), wr = w' ∧ v15 = .int .i64 pos ∧ Aside0 (sparse_Write.l0 k a2 a3 kq pos xs = some o) ∧ Aside0 (a2 ≤ pos ∧ pos ≤ a2 + (a3.size : Int)) ∧ Aside0 (Kd.R k39 39 w' w.heap.size (fun _ => True) v13 xs) ∧ Aside0 (Below w.heap.size w w'))
        case atStart => exact ⟨out, a2, _, rfl, rfl, HLP, ⟨by omega⟩, HR2, HB2⟩
        case round =>
          clear HLP HR2 HB2 HOUT HEC
          obtain ⟨xs, pos, wr, hwr, rfl, HA, HP, HX, HBW⟩ := hrel
          subst hwr
          cases gk with
          | zero => exact absurd HA.out (by simp [sparse_Write.l0])
          | succ k1 =>
            have H := HA.out
            clear HA
            simp only [sparse_Write.l0] at H
            by_cases c6 : pos < a2 + (a3.size : Int)
            · rw [if_pos c6] at H
              obtain ⟨⟨i, is⟩, hf, H⟩ := Option.bind_eq_some_iff.1 H
              have c6b0 : decide (pos < a2 + (a3.size : Int)) = true := decide_eq_true c6
              split at H
              case isFalse => cases H
              case isTrue hok =>
              have HN := Aside0.mk H
              have HOK := Aside0.mk hok
              have HF := Aside0.mk hf
              clear H hok hf
              obtain ⟨A, c, rfl, hc, hC⟩ := Kd.R_reads HX.out
              have HC1 := Aside0.mk hc
              have HC2 := Aside0.mk hC
              clear hc hC
              have hp0 : 0 ≤ pos := by have := HP.out; omega
              have et : Int.tdiv pos 64 = pos / 64 := Int.tdiv_eq_ediv_of_nonneg hp0
              have em : Int.tmod pos 64 = pos % 64 := Int.tmod_eq_emod_of_nonneg hp0
              have e3 : IntKind.i64.wrap (Int.tdiv pos 64) = Int.tdiv pos 64 := by rw [IntKind.wrap_i64, et]; omega
              have e4 : IntKind.i64.wrap (Int.tmod pos 64) = Int.tmod pos 64 := by rw [IntKind.wrap_i64, em]; omega
              have HEM := Aside0.mk em
              clear et em
              have q0 : 0 ≤ i := HOK.out.1
              have q1 : i ≤ (xs.length : Int) := HOK.out.2.1
              have hi64 : (Tryd.prog.info? 64).map (·.size) = some 64 := by kernel_rfl
              have HI64 := Aside0.mk hi64
              clear hi64
              go_upto_region 15 with (go_at_call 26; (with_reducible refine (sparse_find.calls k A c xs _ i _ _ HC2.out HC1.out HF.out).mono ?_); rintro e w2 ⟨rfl, hb⟩; have HB2 := Aside0.mk hb; clear hb)
              have hb3 := below_alloc (Below.refl w2.heap.size w2) (.cells #[.int .u8 0, .int .u8 0, .int .u8 0, .int .u8 0, .int .u8 0, .int .u8 0, .int .u8 0, .int .u8 0, .int .u8 0, .int .u8 0, .int .u8 0, .int .u8 0, .int .u8 0, .int .u8 0, .int .u8 0, .int .u8 0, .int .u8 0, .int .u8 0, .int .u8 0, .int .u8 0, .int .u8 0, .int .u8 0, .int .u8 0, .int .u8 0, .int .u8 0, .int .u8 0, .int .u8 0, .int .u8 0, .int .u8 0, .int .u8 0, .int .u8 0, .int .u8 0, .int .u8 0, .int .u8 0, .int .u8 0, .int .u8 0, .int .u8 0, .int .u8 0, .int .u8 0, .int .u8 0, .int .u8 0, .int .u8 0, .int .u8 0, .int .u8 0, .int .u8 0, .int .u8 0, .int .u8 0, .int .u8 0, .int .u8 0, .int .u8 0, .int .u8 0, .int .u8 0, .int .u8 0, .int .u8 0, .int .u8 0, .int .u8 0, .int .u8 0, .int .u8 0, .int .u8 0, .int .u8 0, .int .u8 0, .int .u8 0, .int .u8 0, .int .u8 0] 64)
              have HB3 := Aside0.mk (below_step HB2.out hb3)
              have HG3 := Aside0.mk (blk_new w2 (.cells #[.int .u8 0, .int .u8 0, .int .u8 0, .int .u8 0, .int .u8 0, .int .u8 0, .int .u8 0, .int .u8 0, .int .u8 0, .int .u8 0, .int .u8 0, .int .u8 0, .int .u8 0, .int .u8 0, .int .u8 0, .int .u8 0, .int .u8 0, .int .u8 0, .int .u8 0, .int .u8 0, .int .u8 0, .int .u8 0, .int .u8 0, .int .u8 0, .int .u8 0, .int .u8 0, .int .u8 0, .int .u8 0, .int .u8 0, .int .u8 0, .int .u8 0, .int .u8 0, .int .u8 0, .int .u8 0, .int .u8 0, .int .u8 0, .int .u8 0, .int .u8 0, .int .u8 0, .int .u8 0, .int .u8 0, .int .u8 0, .int .u8 0, .int .u8 0, .int .u8 0, .int .u8 0, .int .u8 0, .int .u8 0, .int .u8 0, .int .u8 0, .int .u8 0, .int .u8 0, .int .u8 0, .int .u8 0, .int .u8 0, .int .u8 0, .int .u8 0, .int .u8 0, .int .u8 0, .int .u8 0, .int .u8 0, .int .u8 0, .int .u8 0, .int .u8 0] 64))
              have hz : #[.int .u8 0, .int .u8 0, .int .u8 0, .int .u8 0, .int .u8 0, .int .u8 0, .int .u8 0, .int .u8 0, .int .u8 0, .int .u8 0, .int .u8 0, .int .u8 0, .int .u8 0, .int .u8 0, .int .u8 0, .int .u8 0, .int .u8 0, .int .u8 0, .int .u8 0, .int .u8 0, .int .u8 0, .int .u8 0, .int .u8 0, .int .u8 0, .int .u8 0, .int .u8 0, .int .u8 0, .int .u8 0, .int .u8 0, .int .u8 0, .int .u8 0, .int .u8 0, .int .u8 0, .int .u8 0, .int .u8 0, .int .u8 0, .int .u8 0, .int .u8 0, .int .u8 0, .int .u8 0, .int .u8 0, .int .u8 0, .int .u8 0, .int .u8 0, .int .u8 0, .int .u8 0, .int .u8 0, .int .u8 0, .int .u8 0, .int .u8 0, .int .u8 0, .int .u8 0, .int .u8 0, .int .u8 0, .int .u8 0, .int .u8 0, .int .u8 0, .int .u8 0, .int .u8 0, .int .u8 0, .int .u8 0, .int .u8 0, .int .u8 0, .int .u8 0] = (nums .u8 (bytesOf sparse_Write.zero)).toArray := by kernel_rfl
              clear hb3 hz
              generalize w2.alloc (.cells #[.int .u8 0, .int .u8 0, .int .u8 0, .int .u8 0, .int .u8 0, .int .u8 0, .int .u8 0, .int .u8 0, .int .u8 0, .int .u8 0, .int .u8 0, .int .u8 0, .int .u8 0, .int .u8 0, .int .u8 0, .int .u8 0, .int .u8 0, .int .u8 0, .int .u8 0, .int .u8 0, .int .u8 0, .int .u8 0, .int .u8 0, .int .u8 0, .int .u8 0, .int .u8 0, .int .u8 0, .int .u8 0, .int .u8 0, .int .u8 0, .int .u8 0, .int .u8 0, .int .u8 0, .int .u8 0, .int .u8 0, .int .u8 0, .int .u8 0, .int .u8 0, .int .u8 0, .int .u8 0, .int .u8 0, .int .u8 0, .int .u8 0, .int .u8 0, .int .u8 0, .int .u8 0, .int .u8 0, .int .u8 0, .int .u8 0, .int .u8 0, .int .u8 0, .int .u8 0, .int .u8 0, .int .u8 0, .int .u8 0, .int .u8 0, .int .u8 0, .int .u8 0, .int .u8 0, .int .u8 0, .int .u8 0, .int .u8 0, .int .u8 0, .int .u8 0] 64) = w3 at *
              cases is with
              | true =>
                have q2 : i < (xs.length : Int) := (HOK.out.2.2.1 rfl).1
                have HS6 := Aside0.mk (HOK.out.2.2.1 rfl).2
                obtain ⟨ad, e0, hx0, hx1⟩ := at_T39 HC2.out i q0 q2
                cases e0
                obtain ⟨g, rfl⟩ := Kd.R_head HX.out
                have HCE : Aside0 (∀ W, Below wr.heap.size wr W → ∀ j u, [Value.int .i64 (rd_T39 xs i).f0, .string (rd_T39 xs i).f1][j]? = some u → W.cell? ⟨g, i.toNat * 2 + j, none⟩ = some u) := ⟨fun W hW j u hj => by
                  have k0 := hx0
                  have k1 := hx1
                  simp only [Addr.add_lit, Nat.zero_add] at k0 k1
                  have c0 := (hW.cell (World.block_lt_of_cell? _ _ k0)).trans k0
                  have c1 := (hW.cell (World.block_lt_of_cell? _ _ k1)).trans k1
                  rcases j with _ | _ | j
                  · obtain rfl := Option.some.inj hj
                    exact c0
                  · obtain rfl := Option.some.inj hj
                    exact c1
                  · cases hj⟩
                replace hx0 := (HB3.out.cell (World.block_lt_of_cell? _ _ hx0)).trans hx0
                replace hx1 := (HB3.out.cell (World.block_lt_of_cell? _ _ hx1)).trans hx1
                simp only [Addr.add_lit, Nat.zero_add] at hx0 hx1
                go_wp2_with (first
                  | (go_at_call 27; (with_reducible refine (sparse_Write.of _ _ HS6.out _).mono ?_); rintro e w4 ⟨rfl, hb⟩; have HB4 := Aside0.mk (below_step HB3.out hb); have HG4 := Aside0.mk (blk_below HG3.out hb); clear hb)
                  | (refine wpList_store_row rfl 64 (.tmp 20) (.tmp 66) rfl w2.heap.size (nums .u8 (bytesOf (rd_T39 xs i).f1)).toArray rfl rfl 64 #[.int .u8 0, .int .u8 0, .int .u8 0, .int .u8 0, .int .u8 0, .int .u8 0, .int .u8 0, .int .u8 0, .int .u8 0, .int .u8 0, .int .u8 0, .int .u8 0, .int .u8 0, .int .u8 0, .int .u8 0, .int .u8 0, .int .u8 0, .int .u8 0, .int .u8 0, .int .u8 0, .int .u8 0, .int .u8 0, .int .u8 0, .int .u8 0, .int .u8 0, .int .u8 0, .int .u8 0, .int .u8 0, .int .u8 0, .int .u8 0, .int .u8 0, .int .u8 0, .int .u8 0, .int .u8 0, .int .u8 0, .int .u8 0, .int .u8 0, .int .u8 0, .int .u8 0, .int .u8 0, .int .u8 0, .int .u8 0, .int .u8 0, .int .u8 0, .int .u8 0, .int .u8 0, .int .u8 0, .int .u8 0, .int .u8 0, .int .u8 0, .int .u8 0, .int .u8 0, .int .u8 0, .int .u8 0, .int .u8 0, .int .u8 0, .int .u8 0, .int .u8 0, .int .u8 0, .int .u8 0, .int .u8 0, .int .u8 0, .int .u8 0, .int .u8 0] HG4.out (by rw [HI64.out]; simp [nums, bytesOf_length, HS6.out]) (by simp [nums, bytesOf_length, HS6.out]) (by simp [nums, Value.oneCell']) ?_))
                have HB5 := Aside0.mk (below_setRow HB4.out (below_size HB2.out) (nums .u8 (bytesOf (rd_T39 xs i).f1)).toArray)
                have HG5 := Aside0.mk (blk_setRow HG4.out (nums .u8 (bytesOf (rd_T39 xs i).f1)).toArray)
                generalize w4.setRow w2.heap.size (nums .u8 (bytesOf (rd_T39 xs i).f1)).toArray = w5 at *
                have hk0 : 0 ≤ pos % 64 := by omega
                have hk1 : pos % 64 < 64 := by omega
                have hk2 : pos % 64 ≤ 64 := by omega
                have hsk : (pos % 64).toNat ≤ 64 := by omega
                have hu0 : 0 ≤ pos - a2 := by have := HP.out; omega
                have hu2 : a2 ≤ pos := HP.out.1
                have hu3 : ¬ (64 = (pos % 64).toNat) := by omega
                have hu1 : pos - a2 ≤ (a3.size : Int) := by have := HP.out; omega
                have e6 : IntKind.i64.wrap (pos - a2) = pos - a2 := by rw [IntKind.wrap_i64]; omega
                obtain ⟨n, hn⟩ : ∃ n, n = Nat.min (a3.extract (pos - a2).toNat a3.size).size (64 - (pos % 64).toNat) := ⟨_, rfl⟩
                have hn1 : n ≤ 64 := by rw [hn]; exact Nat.le_trans (Nat.min_le_right _ _) (by omega)
                have e7 : IntKind.i64.wrap (pos + (n : Int)) = pos + (n : Int) := by rw [IntKind.wrap_i64]; have := HP.out; omega
                have hc1 : (Tryd.prog.info? 5).map (·.size) = some 1 := by kernel_rfl
                have hcp : ∀ ty dc, (Builtin.copy_ #[66, 9] ty #[.slice (some ⟨w2.heap.size, (pos % 64).toNat, none⟩) (64 - (pos % 64).toNat) dc, .string (a3.extract (pos - a2).toNat a3.size)]).run Tryd.prog w5.drew = .ok (goInt n) (w5.drew.setRow w2.heap.size (nums .u8 (bytesOf (sparse_Write.lay (rd_T39 xs i).f1 (pos % 64).toNat (a3.extract (pos - a2).toNat a3.size)))).toArray) := fun ty dc => by
                  rw [hn, ← sparse_Write.lay_cells]
                  exact run_copy_row_str w5.drew 66 9 ty 5 w2.heap.size (pos % 64).toNat (64 - (pos % 64).toNat) dc (a3.extract (pos - a2).toNat a3.size) (nums .u8 (bytesOf (rd_T39 xs i).f1)) 64 Tryd.underlying66 hc1 HG5.out (by rw [nums, List.length_map, bytesOf_length, HS6.out]; have hmm : Nat.min (a3.extract (pos - a2).toNat a3.size).size (64 - (pos % 64).toNat) ≤ 64 - (pos % 64).toNat := Nat.min_le_right _ _; omega)
                have hb1s : (sparse_Write.lay (rd_T39 xs i).f1 (pos % 64).toNat (a3.extract (pos - a2).toNat a3.size)).size = 64 := sparse_Write.lay_size _ _ _ HS6.out hsk
                generalize hb1 : sparse_Write.lay (rd_T39 xs i).f1 (pos % 64).toNat (a3.extract (pos - a2).toNat a3.size) = b1 at *
                have HB1 := Aside0.mk hb1
                have HB1S := Aside0.mk hb1s
                have HNN := Aside0.mk hn
                have hcp3 := hcp 3 (64 - (pos % 64).toNat)
                clear hb1 hb1s hn hcp
                go_region
                have HB6 := Aside0.mk (below_setRow (below_drew HB5.out) (below_size HB2.out) (nums .u8 (bytesOf b1)).toArray)
                have HG6 := Aside0.mk (blk_setRow (w := w5.drew) HG5.out (nums .u8 (bytesOf b1)).toArray)
                generalize w5.drew.setRow w2.heap.size (nums .u8 (bytesOf b1)).toArray = w6 at *
                go_wp2_with (first
                  | (refine wpList_load_row rfl 64 (.tmp 20) rfl w2.heap.size rfl 64 (nums .u8 (bytesOf b1)).toArray (0, 0) _ HG6.out Tryd.underlying64 rfl (by rw [HI64.out]; simp [nums, bytesOf_length, HB1S.out]) ?_)
                  | (go_at_call 28; (with_reducible refine (sparse_Write.piece _ b1 HB1S.out _).mono ?_); rintro e w7 ⟨rfl, hb⟩; have HB7 := Aside0.mk (below_step HB6.out hb); have x0 := HCE.out w7 HB7.out 0 _ rfl; have x1 := HCE.out w7 HB7.out 1 _ rfl; have f0 := sparse_Write.thaw (Kd.R_below HX.out HB7.out) (i.toNat * 2); have f1 := sparse_Write.thaw (Kd.R_below HX.out HB7.out) (i.toNat * 2 + 1); simp only [Nat.add_zero] at x0; clear hb)
                  | fail)
                go_roundg k1
                case measure => omega
                case rel =>
                  have hseg := Kd.R_seg (x' := (⟨Int.tdiv pos 64, b1⟩ : S39)) (j := 0) (seg := [.int .i64 (Int.tdiv pos 64), .string b1]) (okp := fun _ => False) (Kd.R_below HX.out HB7.out) i q0 q2 (c := [.int .i64 (rd_T39 xs i).f0, .string (rd_T39 xs i).f1]) rfl (fun j u hj => HCE.out w7 HB7.out j u hj) (Nat.le_refl 2) (k39_mkM _ _ _ _) (fun _ h => h.elim)
                  have hH := HN.out
                  simp only [sparse_Write.put, sparse_Write.got, sparse_Write.rest, HEM.out, if_true] at hH
                  rw [← HNN.out, HB1.out] at hH
                  have hb7 := below_step HBW.out HB7.out
                  refine ⟨_, _, _, rfl, rfl, ⟨hH⟩, ⟨?_⟩, ⟨hseg.1⟩, ⟨pw_below_grown hb7 (some g) (below_size hb7) hseg.2 (fun k hk => by cases hk; exact Kd.R_base HX.out g (by simp [Value.ownBlock]))⟩⟩
                  have h1 := HNN.out
                  have h2 : n ≤ (a3.extract (pos - a2).toNat a3.size).size := by rw [h1]; exact Nat.min_le_left _ _
                  rw [ByteArray.size_extract] at h2
                  clear hH HN
                  omega
              | false =>
                obtain ⟨m, rfl⟩ := Int.eq_ofNat_of_zero_le q0
                have hz : #[.int .u8 0, .int .u8 0, .int .u8 0, .int .u8 0, .int .u8 0, .int .u8 0, .int .u8 0, .int .u8 0, .int .u8 0, .int .u8 0, .int .u8 0, .int .u8 0, .int .u8 0, .int .u8 0, .int .u8 0, .int .u8 0, .int .u8 0, .int .u8 0, .int .u8 0, .int .u8 0, .int .u8 0, .int .u8 0, .int .u8 0, .int .u8 0, .int .u8 0, .int .u8 0, .int .u8 0, .int .u8 0, .int .u8 0, .int .u8 0, .int .u8 0, .int .u8 0, .int .u8 0, .int .u8 0, .int .u8 0, .int .u8 0, .int .u8 0, .int .u8 0, .int .u8 0, .int .u8 0, .int .u8 0, .int .u8 0, .int .u8 0, .int .u8 0, .int .u8 0, .int .u8 0, .int .u8 0, .int .u8 0, .int .u8 0, .int .u8 0, .int .u8 0, .int .u8 0, .int .u8 0, .int .u8 0, .int .u8 0, .int .u8 0, .int .u8 0, .int .u8 0, .int .u8 0, .int .u8 0, .int .u8 0, .int .u8 0, .int .u8 0, .int .u8 0] = (nums .u8 (bytesOf sparse_Write.zero)).toArray := by kernel_rfl
                have hg5 := HG3.out
                rw [hz] at hg5
                have HG5 := Aside0.mk hg5
                have HB5 := Aside0.mk HB3.out
                clear hz hg5
                go_wp2
                generalize w3 = w5 at *
                have hk0 : 0 ≤ pos % 64 := by omega
                have hk1 : pos % 64 < 64 := by omega
                have hk2 : pos % 64 ≤ 64 := by omega
                have hsk : (pos % 64).toNat ≤ 64 := by omega
                have hu0 : 0 ≤ pos - a2 := by have := HP.out; omega
                have hu2 : a2 ≤ pos := HP.out.1
                have hu3 : ¬ (64 = (pos % 64).toNat) := by omega
                have hu1 : pos - a2 ≤ (a3.size : Int) := by have := HP.out; omega
                have e6 : IntKind.i64.wrap (pos - a2) = pos - a2 := by rw [IntKind.wrap_i64]; omega
                obtain ⟨n, hn⟩ : ∃ n, n = Nat.min (a3.extract (pos - a2).toNat a3.size).size (64 - (pos % 64).toNat) := ⟨_, rfl⟩
                have hn1 : n ≤ 64 := by rw [hn]; exact Nat.le_trans (Nat.min_le_right _ _) (by omega)
                have e7 : IntKind.i64.wrap (pos + (n : Int)) = pos + (n : Int) := by rw [IntKind.wrap_i64]; have := HP.out; omega
                have hc1 : (Tryd.prog.info? 5).map (·.size) = some 1 := by kernel_rfl
                have hcp : ∀ ty dc, (Builtin.copy_ #[66, 9] ty #[.slice (some ⟨w2.heap.size, (pos % 64).toNat, none⟩) (64 - (pos % 64).toNat) dc, .string (a3.extract (pos - a2).toNat a3.size)]).run Tryd.prog w5.drew = .ok (goInt n) (w5.drew.setRow w2.heap.size (nums .u8 (bytesOf (sparse_Write.lay sparse_Write.zero (pos % 64).toNat (a3.extract (pos - a2).toNat a3.size)))).toArray) := fun ty dc => by
                  rw [hn, ← sparse_Write.lay_cells]
                  exact run_copy_row_str w5.drew 66 9 ty 5 w2.heap.size (pos % 64).toNat (64 - (pos % 64).toNat) dc (a3.extract (pos - a2).toNat a3.size) (nums .u8 (bytesOf sparse_Write.zero)) 64 Tryd.underlying66 hc1 HG5.out (by rw [nums, List.length_map, bytesOf_length, sparse_Write.zero_size]; have hmm : Nat.min (a3.extract (pos - a2).toNat a3.size).size (64 - (pos % 64).toNat) ≤ 64 - (pos % 64).toNat := Nat.min_le_right _ _; omega)
                have hb1s : (sparse_Write.lay sparse_Write.zero (pos % 64).toNat (a3.extract (pos - a2).toNat a3.size)).size = 64 := sparse_Write.lay_size _ _ _ sparse_Write.zero_size hsk
                generalize hb1 : sparse_Write.lay sparse_Write.zero (pos % 64).toNat (a3.extract (pos - a2).toNat a3.size) = b1 at *
                have HB1 := Aside0.mk hb1
                have HB1S := Aside0.mk hb1s
                have HNN := Aside0.mk hn
                have hcp3 := hcp 3 (64 - (pos % 64).toNat)
                clear hb1 hb1s hn hcp
                go_region
                have HB6 := Aside0.mk (below_setRow (below_drew HB5.out) (below_size HB2.out) (nums .u8 (bytesOf b1)).toArray)
                have HG6 := Aside0.mk (blk_setRow (w := w5.drew) HG5.out (nums .u8 (bytesOf b1)).toArray)
                generalize w5.drew.setRow w2.heap.size (nums .u8 (bytesOf b1)).toArray = w6 at *
                have HNE : Aside0 (∀ W : World, wr.heap.size ≤ W.heap.size → (Value.slice A xs.length c).ownBlock ≠ some W.heap.size) := ⟨fun W hW hk => by
                  have hb := (Kd.R_bound HX.out).1 _ hk
                  have h3 : W.heap.size < wr.heap.size := hb.2.2.1
                  omega⟩
                go_wp2_with (first
                  | (refine wpList_load_row rfl 64 (.tmp 20) rfl w2.heap.size rfl 64 (nums .u8 (bytesOf b1)).toArray (0, 0) _ HG6.out Tryd.underlying64 rfl (by rw [HI64.out]; simp [nums, bytesOf_length, HB1S.out]) ?_)
                  | (go_at_call 28; (with_reducible refine (sparse_Write.piece _ b1 HB1S.out _).mono ?_); rintro e w7 ⟨rfl, hb⟩; have HB7 := Aside0.mk (below_step HB6.out hb); clear hb)
                  | fail)
                have hins := sparse_Write.insert w.heap.size (.slice A xs.length c) xs ⟨Int.tdiv pos 64, b1⟩ m w7.heap.size w (w7.alloc (.cells #[.int .i64 (Int.tdiv pos 64), .string b1] 39)) (Int.ofNat_le.1 q1) HOK.out.2.2.2 (Kd.R_below HX.out (below_alloc HB7.out _)) (below_step HBW.out (below_alloc HB7.out _)) (below_size (below_step HBW.out (below_alloc HB7.out _))) (blk_new w7 _) (HNE.out w7 (below_size HB7.out))
                refine hins.mono ?_
                rintro e w8 ⟨v8, rfl, hx8, hb8⟩
                have HX8 := Aside0.mk hx8
                have HB8 := Aside0.mk hb8
                clear hx8 hb8
                go_wp2
                go_roundg k1
                case measure => omega
                case rel =>
                  have hH := HN.out
                  simp only [sparse_Write.put, sparse_Write.got, sparse_Write.rest, HEM.out, if_neg Bool.false_ne_true] at hH
                  rw [← HNN.out, HB1.out] at hH
                  refine ⟨_, _, _, rfl, rfl, ⟨hH⟩, ⟨?_⟩, HX8, HB8⟩
                  have h1 := HNN.out
                  have h2 : n ≤ (a3.extract (pos - a2).toNat a3.size).size := by rw [h1]; exact Nat.min_le_left _ _
                  rw [ByteArray.size_extract] at h2
                  clear hH HN
                  omega
            · rw [if_neg c6] at H
              obtain rfl := Option.some.inj H
              have c6b0 : decide (pos < a2 + (a3.size : Int)) = false := decide_eq_false c6
              by_cases hs : a3.size = 0
              · have hfin := HFIN.out
                rw [if_pos hs] at hfin
                obtain ⟨rfl, rfl, rfl⟩ : r1 = xs ∧ r2 = a1 ∧ r3 = 0 := by simpa [eq_comm] using hfin
                clear hfin HFIN
                have hd : (!a3.toList.isEmpty) = false := by
                  have h0 : a3.data.toList.length = 0 := by rw [Array.length_toList]; exact hs
                  rw [ByteArray.toList_eq, List.length_eq_zero_iff.1 h0]
                  rfl
                go_wp2
                go_ret3
                exact ⟨_, rfl, HX.out, HBW.out⟩
              · have hfin := HFIN.out
                rw [if_neg hs] at hfin
                obtain ⟨rfl, rfl, rfl⟩ : r1 = xs ∧ r2 = max a1 (a2 + (a3.size : Int)) ∧ r3 = 0 := by simpa [eq_comm] using hfin
                clear hfin HFIN
                have hd : (!a3.toList.isEmpty) = true := by
                  rw [ByteArray.toList_eq]
                  cases hq : a3.data.toList with
                  | nil => exact absurd (show a3.data.size = 0 by rw [← Array.length_toList, hq]; rfl) hs
                  | cons x r => rfl
                by_cases hm : a1 < a2 + (a3.size : Int)
                · have em : max a1 (a2 + (a3.size : Int)) = a2 + (a3.size : Int) := by omega
                  have HEM := Aside0.mk em
                  clear em
                  go_wp2
                  go_ret3
                  exact ⟨_, (by rw [HEM.out]; rfl), HX.out, HBW.out⟩
                · have em : max a1 (a2 + (a3.size : Int)) = a1 := by omega
                  have HEM := Aside0.mk em
                  clear em
                  go_wp2
                  go_ret3
                  exact ⟨_, (by rw [HEM.out]; rfl), HX.out, HBW.out⟩


end Go.Proofs.YtgnffienfjigiaaDoor.PA
