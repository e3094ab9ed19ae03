-- WRITTEN BY a program of this session (pp.sh)
import Derived.Test.YtgnffienfjigiaaDoorPAx0
import Derived.Test.YtgnffienfjigiaaDoorPAx3
import Derived.Test.YtgnffienfjigiaaDoorPAx6
namespace Go.Proofs.YtgnffienfjigiaaDoor.PA
open Go.RowKit Go.Proofs.YtgnffienfjigiaaDoorW.PrintWords Go.Proofs.YtgnffienfjigiaaDoorW.PrintLast Go.Proofs.YtgnffienfjigiaaDoorW.PrintMore Go.Proofs.YtgnffienfjigiaaDoor.Plain
attribute [local go_sem] max2_int min2_int max_two min_two max_three min_three max_four min_four binOp_leq_s binOp_gtr_s binOp_geq_s lit_byte   -- for this text's walks alone
set_option linter.unusedVariables false
set_option linter.unusedSimpArgs false

/-! ### sparse_Truncate: function 16, by hand -/
/-- clear(s), s a part of a row of bytes that is known whole. -/
theorem sparse_Truncate.run_clear_row {P : Program} (w : World) (sT elem ty : TypeId) (g o n c : Nat) (cur : List Value) (t : TypeId) (hu : P.underlying sT = some (.slice elem)) (hv : ∀ w, (zeroValue elem).run P w = .ok (.int .u8 0) w) (hg : w.heap[g]? = some (.cells cur.toArray t (0, 0))) (hfit : o + n ≤ cur.length) (hn : 0 < n) :
    (Builtin.clear_ #[sT] ty #[.slice (some ⟨g, o, none⟩) n c]).run P w = .ok (.tuple #[]) (w.setRow g (splice cur o (List.replicate n (.int .u8 0))).toArray) := by
  have hzc : (Builtin.zeroCells (Value.int .u8 0).cells n).toList = List.replicate n (.int .u8 0) := by
    show (Builtin.zeroCells #[Value.int .u8 0] n).toList = _
    simp [Builtin.zeroCells]
    apply List.ext_getElem
    · simp
    · intro i h1 h2
      simp [Nat.mod_one]
  have hst := run_storeCells_at P g o t (List.replicate n (.int .u8 0)) 0 cur.toArray w hg (by simpa using hfit) (by intro v hv'; rw [List.eq_of_mem_replicate hv']; rfl)
  obtain ⟨m, rfl⟩ : ∃ m, n = m + 1 := ⟨n - 1, by omega⟩
  simp only [Nat.add_zero] at hst
  simp [Builtin.clear_, run_underlying hu, hv, hzc, hst, splice]
/-- The same as a step of the walk, in a plain region. -/
theorem sparse_Truncate.wpList_clear_run {P : Program} {w : World} {ops : Array Oper} {rest : List Oper} {o : Oper} {a : Act} {Q : Exit → Act → World → Prop} (hgd : o.guard = none) (d : Operand) (t : TypeId)
    (ho : o.op = .call { callee := .builtin .clear, args := #[d], argTypes := #[t] }) (v : Value) (hd : a.eval d = v) {v' : Value} {w' : World}
    (hr : (Builtin.clear_ #[t] o.type #[v]).run P w = .ok v' w') (h : wpList P ops Q rest (a.put o.dst v') w') : wpList P ops Q (o :: rest) a w :=
  wpList_plain hgd fun _ hK => by
    unfold Oper.wp execOp
    simp only [ho, resolve, invoke, builtin, Sem.run_bind, Sem.run_pure, Result.andThen_ok, List.map_toArray, List.map_cons, List.map_nil, hd, hr]
    exact hK _ _ h
/-- Bytes of a piece made zeros. -/
def sparse_Truncate.lo (a : Int) (p : S39) : Int := max (a - p.f0 * 64) 0
def sparse_Truncate.hi (b : Int) (p : S39) : Int := min (b - p.f0 * 64) 64
def sparse_Truncate.zer (p : S39) (lo hi : Nat) : ByteArray := ⟨(splice p.f1.data.toList lo (List.replicate (hi - lo) (0 : UInt8))).toArray⟩
def sparse_Truncate.clr (a b : Int) (p : S39) : S39 := ⟨p.f0, if sparse_Truncate.lo a p < sparse_Truncate.hi b p then sparse_Truncate.zer p (sparse_Truncate.lo a p).toNat (sparse_Truncate.hi b p).toNat else p.f1⟩
def sparse_Truncate.cut (l : List S39) (a b : Int) (gone : Int → Bool) : List S39 := (l.filter fun p => !gone p.f0).map (sparse_Truncate.clr a b)
theorem sparse_Truncate.zer_cells (p : S39) (lo hi : Nat) : splice (nums .u8 (bytesOf p.f1)) lo (List.replicate (hi - lo) (.int .u8 0)) = nums .u8 (bytesOf (sparse_Truncate.zer p lo hi)) := by
  unfold sparse_Truncate.zer nums bytesOf splice
  simp [List.map_take, List.map_drop, List.map_append]
theorem sparse_Truncate.zer_size (p : S39) (lo hi : Nat) (hp : p.f1.size = 64) (h : lo ≤ hi) (h2 : hi ≤ 64) : (sparse_Truncate.zer p lo hi).size = 64 := by
  have h0 : p.f1.data.toList.length = 64 := by rw [Array.length_toList]; exact hp
  show (splice _ _ _).toArray.size = 64
  rw [List.size_toArray, length_splice _ _ _ (by rw [List.length_replicate, h0]; omega), h0]
theorem sparse_Truncate.cut_snoc (l : List S39) (j : Nat) (hj : j < l.length) (a b : Int) (gone : Int → Bool) : sparse_Truncate.cut (l.take (j + 1)) a b gone = if gone (rd_T39 l (j : Int)).f0 = true then sparse_Truncate.cut (l.take j) a b gone else sparse_Truncate.cut (l.take j) a b gone ++ [sparse_Truncate.clr a b (rd_T39 l (j : Int))] := by
  have e : l.take (j + 1) = l.take j ++ [rd_T39 l (j : Int)] := by
    rw [List.take_add_one, List.getElem?_eq_getElem hj]
    unfold rd_T39
    rw [Int.toNat_natCast, List.getD_eq_getElem?_getD, List.getElem?_eq_getElem hj]
    rfl
  rw [e]
  unfold sparse_Truncate.cut
  rw [List.filter_append, List.map_append]
  by_cases h : gone (rd_T39 l (j : Int)).f0 = true
  · rw [if_pos h]
    simp [h]
  · rw [if_neg h]
    simp [h]
theorem sparse_Truncate.zero_u8 : ∀ w, (zeroValue 5).run Tryd.prog w = .ok (.int .u8 0) w := by
  intro w
  have h : (Tryd.prog.info? 5).map (fun i => i.zero) = some (some (.int .u8 0)) := by kernel_rfl
  cases hq : Tryd.prog.info? 5 with
  | none => rw [hq] at h; cases h
  | some i =>
    have hz : i.zero = some (.int .u8 0) := by rw [hq] at h; simpa using h
    simp [zeroValue, typeInfo, hq, hz]
set_option maxHeartbeats 8000000 in
set_option maxRecDepth 100000 in
/-- Pieces gone, bytes zeroed. -/
theorem sparse_Truncate.zeroed (g : Nat) (lb : Array Value) (eg : ∀ args w, (callFunc g args).run Tryd.prog w = .ok (.enter g args) w) (gone : Int → Bool) (a b : Int) (ha0 : 0 ≤ a) (ha1 : a ≤ 4611686018427387904) (hb0 : 0 ≤ b) (hb1 : b ≤ 4611686018427387904) (w : World) (A0 : Option Addr) (c0 : Nat) (l0 : List S39)
    (hr0 : Kd.C k39 w A0 l0.length l0) (hc0 : l0.length ≤ c0) (hlen : l0.length * 24 ≤ 140737488355328) (hp : ∀ j : Nat, j < l0.length → 0 ≤ (rd_T39 l0 (j : Int)).f0 ∧ (rd_T39 l0 (j : Int)).f0 ≤ 72057594037927936 ∧ (rd_T39 l0 (j : Int)).f1.size = 64)
    (hst : ∀ (W : World) (i : Int), Below w.heap.size w W → 0 ≤ i → i ≤ 72057594037927936 → Calls Tryd.prog g (#[.int .i64 i] ++ lb) W fun e w' => e = .returned (.bool (gone i)) ∧ Below W.heap.size W w') :
    Calls Tryd.prog 31 #[.slice A0 l0.length c0, .int .i64 a, .int .i64 b, .func (.func g) #[] lb] w fun e w' => ∃ v, e = .returned v ∧ Kd.R k39 39 w' w.heap.size (fun _ => True) v (sparse_Truncate.cut l0 a b gone) ∧ Below w.heap.size w w' := by
  have HR0 := Aside0.mk hr0
  have HC0 := Aside0.mk hc0
  have HLEN := Aside0.mk hlen
  have HPP := Aside0.mk hp
  have HST := Aside0.mk hst
  have hi64 : (Tryd.prog.info? 64).map (·.size) = some 64 := by kernel_rfl
  have hi2 : (Tryd.prog.info? 39).map (·.size) = some 2 := by kernel_rfl
  have HI64 := Aside0.mk hi64
  have HI2 := Aside0.mk hi2
  clear hr0 hc0 hlen hp hst hi64 hi2
  go_enter Tryd.func31, Tryd.ntmps31
  go_wp2
  go_loopg [9, 18] (l0.length + 1) (fun kq v9 v18 w' => ∃ (j : Nat) (wr : World), wr = w' ∧ v18 = .int .i64 (j : Int) ∧ Aside0 (j + kq = l0.length + 1) ∧ Aside0 (Kd.R k39 39 w' w.heap.size (fun _ => True) v9 (sparse_Truncate.cut (l0.take j) a b gone)) ∧ Aside0 (Below w.heap.size w w'))
  case atStart => exact ⟨0, _, rfl, rfl, ⟨by omega⟩, ⟨Kd.R_nil _ _ _ _ _⟩, ⟨Below.refl _ _⟩⟩
  case round =>
    obtain ⟨j, wr, hwr, rfl, HJ, HX, HBW⟩ := hrel
    subst hwr
    by_cases c : j < l0.length
    · obtain ⟨k1, rfl⟩ : ∃ q, gk = q + 1 := ⟨gk - 1, by have := HJ.out; omega⟩
      have dJ : decide ((j : Int) < (l0.length : Int)) = true := decide_eq_true (by omega)
      have hj9 : IntKind.i64.wrap ((j : Int) + 1) = ((j + 1 : Nat) : Int) := by rw [IntKind.wrap_i64]; have := HLEN.out; omega
      obtain ⟨ad, e0, hx0, hx1⟩ := at_T39 HR0.out (j : Int) (by omega) (by omega)
      cases e0
      replace hx0 := (HBW.out.cell (World.block_lt_of_cell? _ _ hx0)).trans hx0
      replace hx1 := (HBW.out.cell (World.block_lt_of_cell? _ _ hx1)).trans hx1
      have hq := HPP.out j c
      obtain ⟨p, hpe⟩ : ∃ p, rd_T39 l0 (j : Int) = p := ⟨_, rfl⟩
      rw [hpe] at hx0 hx1 hq
      rw [Int.toNat_natCast] at hx0 hx1
      have HPE := Aside0.mk hpe
      have HQ := Aside0.mk hq
      have hq0 : 0 ≤ p.f0 := hq.1
      have hq1 : p.f0 ≤ 72057594037927936 := hq.2.1
      have HDS0 : Aside0 (p.f1.size = 64) := ⟨hq.2.2⟩
      have HCL : Aside0 ((sparse_Truncate.cut (l0.take j) a b gone).length ≤ j) := ⟨by
        unfold sparse_Truncate.cut
        rw [List.length_map]
        exact Nat.le_trans (List.length_filter_le _ _) (by rw [List.length_take]; omega)⟩
      clear hpe hq
      go_upto_region 5 with (refine wpList_store_row rfl 39 (.tmp 11) (.tmp 21) rfl wr.heap.size #[.int .i64 p.f0, .string p.f1] rfl rfl 39 #[.int .i64 0, .string ⟨#[]⟩] (blk_new wr _) HI2.out rfl (by simp [Value.oneCell']) ?_)
      have HB2 := Aside0.mk (below_setRow (below_alloc (Below.refl wr.heap.size wr) (.cells #[.int .i64 0, .string ⟨#[]⟩] 39)) (Nat.le_refl _) #[.int .i64 p.f0, .string p.f1])
      have HP2 := Aside0.mk (blk_setRow (blk_new wr (.cells #[.int .i64 0, .string ⟨#[]⟩] 39)) #[.int .i64 p.f0, .string p.f1])
      generalize (wr.alloc (.cells #[.int .i64 0, .string ⟨#[]⟩] 39)).setRow wr.heap.size #[.int .i64 p.f0, .string p.f1] = w2 at *
      have hp0 : w2.cell? ⟨wr.heap.size, 0, none⟩ = some (.int .i64 p.f0) := (blk_cell HP2.out 0).trans rfl
      clear hx0 hx1
      obtain ⟨t, ht⟩ : ∃ t, gone p.f0 = t := ⟨_, rfl⟩
      have HG := Aside0.mk ht
      clear ht
      cases t with
      | true =>
        go_wp2_with (go_at_fn g; (with_reducible refine (HST.out w2 p.f0 (below_step HBW.out HB2.out) hq0 hq1).mono ?_); rintro e w3 ⟨rfl, hb⟩; rw [HG.out]; have HB3 := Aside0.mk (below_step HB2.out hb); clear hb)
        go_roundg k1
        case measure => omega
        case rel => exact ⟨j + 1, _, rfl, rfl, ⟨by have := HJ.out; omega⟩, ⟨by rw [sparse_Truncate.cut_snoc l0 j c, HPE.out, if_pos HG.out]; exact Kd.R_below HX.out HB3.out⟩, ⟨below_step HBW.out HB3.out⟩⟩
      | false =>
        go_upto_region 7 with (first
          | (go_at_fn g; (with_reducible refine (HST.out w2 p.f0 (below_step HBW.out HB2.out) hq0 hq1).mono ?_); rintro e w3 ⟨rfl, hb⟩; rw [HG.out]; have HB3 := Aside0.mk (below_step HB2.out hb); have HP3 := Aside0.mk (blk_below HP2.out hb); have hp3 := (blk_cell HP3.out 0).trans rfl; have hp4 := (blk_cell HP3.out 1).trans rfl; clear hb)
          | (go_at_call 27; (with_reducible refine (sparse_Write.of _ _ HDS0.out _).mono ?_); rintro e w4 ⟨rfl, hb⟩; have HB4 := Aside0.mk (below_step HB3.out hb); have HP4 := Aside0.mk (blk_below HP3.out hb); clear hb)
          | (refine wpList_store_row rfl 64 (.tmp 12) (.tmp 27) rfl w4.heap.size (nums .u8 (bytesOf p.f1)).toArray rfl rfl 64 #[.int .u8 0, .int .u8 0, .int .u8 0, .int .u8 0, .int .u8 0, .int .u8 0, .int .u8 0, .int .u8 0, .int .u8 0, .int .u8 0, .int .u8 0, .int .u8 0, .int .u8 0, .int .u8 0, .int .u8 0, .int .u8 0, .int .u8 0, .int .u8 0, .int .u8 0, .int .u8 0, .int .u8 0, .int .u8 0, .int .u8 0, .int .u8 0, .int .u8 0, .int .u8 0, .int .u8 0, .int .u8 0, .int .u8 0, .int .u8 0, .int .u8 0, .int .u8 0, .int .u8 0, .int .u8 0, .int .u8 0, .int .u8 0, .int .u8 0, .int .u8 0, .int .u8 0, .int .u8 0, .int .u8 0, .int .u8 0, .int .u8 0, .int .u8 0, .int .u8 0, .int .u8 0, .int .u8 0, .int .u8 0, .int .u8 0, .int .u8 0, .int .u8 0, .int .u8 0, .int .u8 0, .int .u8 0, .int .u8 0, .int .u8 0, .int .u8 0, .int .u8 0, .int .u8 0, .int .u8 0, .int .u8 0, .int .u8 0, .int .u8 0, .int .u8 0] (blk_new w4 _) (by rw [HI64.out]; simp [nums, bytesOf_length, HDS0.out]) (by simp [nums, bytesOf_length, HDS0.out]) (by simp [nums, Value.oneCell']) ?_))
        have hb5 := below_setRow (below_alloc (Below.refl w4.heap.size w4) (.cells #[.int .u8 0, .int .u8 0, .int .u8 0, .int .u8 0, .int .u8 0, .int .u8 0, .int .u8 0, .int .u8 0, .int .u8 0, .int .u8 0, .int .u8 0, .int .u8 0, .int .u8 0, .int .u8 0, .int .u8 0, .int .u8 0, .int .u8 0, .int .u8 0, .int .u8 0, .int .u8 0, .int .u8 0, .int .u8 0, .int .u8 0, .int .u8 0, .int .u8 0, .int .u8 0, .int .u8 0, .int .u8 0, .int .u8 0, .int .u8 0, .int .u8 0, .int .u8 0, .int .u8 0, .int .u8 0, .int .u8 0, .int .u8 0, .int .u8 0, .int .u8 0, .int .u8 0, .int .u8 0, .int .u8 0, .int .u8 0, .int .u8 0, .int .u8 0, .int .u8 0, .int .u8 0, .int .u8 0, .int .u8 0, .int .u8 0, .int .u8 0, .int .u8 0, .int .u8 0, .int .u8 0, .int .u8 0, .int .u8 0, .int .u8 0, .int .u8 0, .int .u8 0, .int .u8 0, .int .u8 0, .int .u8 0, .int .u8 0, .int .u8 0, .int .u8 0] 64)) (Nat.le_refl _) (nums .u8 (bytesOf p.f1)).toArray
        have HG5 := Aside0.mk (blk_setRow (blk_new w4 (.cells #[.int .u8 0, .int .u8 0, .int .u8 0, .int .u8 0, .int .u8 0, .int .u8 0, .int .u8 0, .int .u8 0, .int .u8 0, .int .u8 0, .int .u8 0, .int .u8 0, .int .u8 0, .int .u8 0, .int .u8 0, .int .u8 0, .int .u8 0, .int .u8 0, .int .u8 0, .int .u8 0, .int .u8 0, .int .u8 0, .int .u8 0, .int .u8 0, .int .u8 0, .int .u8 0, .int .u8 0, .int .u8 0, .int .u8 0, .int .u8 0, .int .u8 0, .int .u8 0, .int .u8 0, .int .u8 0, .int .u8 0, .int .u8 0, .int .u8 0, .int .u8 0, .int .u8 0, .int .u8 0, .int .u8 0, .int .u8 0, .int .u8 0, .int .u8 0, .int .u8 0, .int .u8 0, .int .u8 0, .int .u8 0, .int .u8 0, .int .u8 0, .int .u8 0, .int .u8 0, .int .u8 0, .int .u8 0, .int .u8 0, .int .u8 0, .int .u8 0, .int .u8 0, .int .u8 0, .int .u8 0, .int .u8 0, .int .u8 0, .int .u8 0, .int .u8 0] 64)) (nums .u8 (bytesOf p.f1)).toArray)
        have HB5 := Aside0.mk (below_step HB4.out hb5)
        have HP5 := Aside0.mk (blk_below HP4.out hb5)
        have hle4 := below_size HB4.out
        have HLE := Aside0.mk hle4
        have HLT := Aside0.mk (blk_lt HP4.out)
        clear hb5 hp3 hp4 hle4
        generalize (w4.alloc (.cells #[.int .u8 0, .int .u8 0, .int .u8 0, .int .u8 0, .int .u8 0, .int .u8 0, .int .u8 0, .int .u8 0, .int .u8 0, .int .u8 0, .int .u8 0, .int .u8 0, .int .u8 0, .int .u8 0, .int .u8 0, .int .u8 0, .int .u8 0, .int .u8 0, .int .u8 0, .int .u8 0, .int .u8 0, .int .u8 0, .int .u8 0, .int .u8 0, .int .u8 0, .int .u8 0, .int .u8 0, .int .u8 0, .int .u8 0, .int .u8 0, .int .u8 0, .int .u8 0, .int .u8 0, .int .u8 0, .int .u8 0, .int .u8 0, .int .u8 0, .int .u8 0, .int .u8 0, .int .u8 0, .int .u8 0, .int .u8 0, .int .u8 0, .int .u8 0, .int .u8 0, .int .u8 0, .int .u8 0, .int .u8 0, .int .u8 0, .int .u8 0, .int .u8 0, .int .u8 0, .int .u8 0, .int .u8 0, .int .u8 0, .int .u8 0, .int .u8 0, .int .u8 0, .int .u8 0, .int .u8 0, .int .u8 0, .int .u8 0, .int .u8 0, .int .u8 0] 64)).setRow w4.heap.size (nums .u8 (bytesOf p.f1)).toArray = w5 at *
        have hp5 : w5.cell? ⟨wr.heap.size, 0, none⟩ = some (.int .i64 p.f0) := (blk_cell HP5.out 0).trans rfl
        have m1 : IntKind.i64.wrap (p.f0 * 64) = p.f0 * 64 := by rw [IntKind.wrap_i64]; omega
        go_upto_region 8 with (fail)
        (try simp only [Act.put, List.setIfInBounds_toArray, List.set_cons_zero, List.set_cons_succ])
        go_cut [14, 15] (fun v14 v15 wc => ∃ W : World, W = wc ∧ W = w5 ∧ v14 = .int .i64 (sparse_Truncate.lo a p) ∧ v15 = .int .i64 (sparse_Truncate.hi b p))
        case first =>
          clear HX
          have e1 : IntKind.i64.wrap (a - p.f0 * 64) = a - p.f0 * 64 := by rw [IntKind.wrap_i64]; omega
          have e2 : IntKind.i64.wrap (b - p.f0 * 64) = b - p.f0 * 64 := by rw [IntKind.wrap_i64]; omega
          have n1 : ∀ x, x = sparse_Truncate.lo a p → Value.int .i64 x = .int .i64 (sparse_Truncate.lo a p) := fun x h => by rw [h]
          have n2 : ∀ x, x = sparse_Truncate.hi b p → Value.int .i64 x = .int .i64 (sparse_Truncate.hi b p) := fun x h => by rw [h]
          rcases Int.lt_or_le 0 (a - p.f0 * 64) with c1 | c1 <;> rcases Int.lt_or_le (b - p.f0 * 64) 64 with c2 | c2
          · have c3 : ¬ (a - p.f0 * 64 ≤ 0) := by omega
            have c5 : ¬ (a - p.f0 * 64 < 0) := by omega
            have c4 : ¬ (64 < b - p.f0 * 64) := by omega
            have c6 : b - p.f0 * 64 ≤ 64 := by omega
            have c7 : 0 ≤ a - p.f0 * 64 := by omega
            go_wp2
            all_goals
              go_meet
              case rel => exact ⟨_, rfl, rfl, n1 _ (by unfold sparse_Truncate.lo; omega), n2 _ (by unfold sparse_Truncate.hi; omega)⟩
          · have c3 : ¬ (a - p.f0 * 64 ≤ 0) := by omega
            have c5 : ¬ (a - p.f0 * 64 < 0) := by omega
            have c4 : ¬ (b - p.f0 * 64 < 64) := by omega
            have c7 : 0 ≤ a - p.f0 * 64 := by omega
            go_wp2
            all_goals
              go_meet
              case rel => exact ⟨_, rfl, rfl, n1 _ (by unfold sparse_Truncate.lo; omega), n2 _ (by unfold sparse_Truncate.hi; omega)⟩
          · have c3 : ¬ (0 < a - p.f0 * 64) := by omega
            have c4 : ¬ (64 < b - p.f0 * 64) := by omega
            have c6 : b - p.f0 * 64 ≤ 64 := by omega
            go_wp2
            all_goals
              go_meet
              case rel => exact ⟨_, rfl, rfl, n1 _ (by unfold sparse_Truncate.lo; omega), n2 _ (by unfold sparse_Truncate.hi; omega)⟩
          · have c3 : ¬ (0 < a - p.f0 * 64) := by omega
            have c4 : ¬ (b - p.f0 * 64 < 64) := by omega
            go_wp2
            all_goals
              go_meet
              case rel => exact ⟨_, rfl, rfl, n1 _ (by unfold sparse_Truncate.lo; omega), n2 _ (by unfold sparse_Truncate.hi; omega)⟩
        case rest =>
          obtain ⟨W5, hW, hW2, rfl, rfl⟩ := hcut
          subst hW
          obtain rfl := hW2.symm
          by_cases cl : sparse_Truncate.lo a p < sparse_Truncate.hi b p
          · obtain ⟨n, hn⟩ : ∃ n : Nat, sparse_Truncate.lo a p = (n : Int) := ⟨(sparse_Truncate.lo a p).toNat, by unfold sparse_Truncate.lo; omega⟩
            obtain ⟨m, hm⟩ : ∃ m : Nat, sparse_Truncate.hi b p = (m : Int) := ⟨(sparse_Truncate.hi b p).toNat, by
              have h0 : 0 ≤ sparse_Truncate.lo a p := by unfold sparse_Truncate.lo; omega
              omega⟩
            have hm64 : (m : Int) ≤ 64 := by rw [← hm]; unfold sparse_Truncate.hi; omega
            have HCLR : Aside0 (sparse_Truncate.clr a b p = ⟨p.f0, sparse_Truncate.zer p n m⟩) := ⟨by
              unfold sparse_Truncate.clr
              rw [if_pos cl, hn, hm, Int.toNat_natCast, Int.toNat_natCast]⟩
            rw [hn, hm] at cl ⊢
            have hnm : n < m := by omega
            have HDS : Aside0 ((sparse_Truncate.zer p n m).size = 64) := ⟨sparse_Truncate.zer_size p n m HDS0.out (by omega) (by omega)⟩
            have dl : decide ((n : Int) < (m : Int)) = true := decide_eq_true cl
            have f0 : (0 : Int) ≤ (n : Int) := by omega
            have f1 : (0 : Int) ≤ (m : Int) := by omega
            have f2 : (n : Int) ≤ (m : Int) := by omega
            have f3 : (n : Int) ≤ 64 := by omega
            have f4 : ¬ (64 = n) := by omega
            have f5 : n ≤ m := by omega
            have f6 : m ≤ 64 := by omega
            have hclr : ∀ ty cp, (Builtin.clear_ #[66] ty #[.slice (some ⟨w4.heap.size, n, none⟩) (m - n) cp]).run Tryd.prog w5 = .ok (.tuple #[]) (w5.setRow w4.heap.size (nums .u8 (bytesOf (sparse_Truncate.zer p n m))).toArray) := fun ty cp => by
              rw [← sparse_Truncate.zer_cells]
              exact sparse_Truncate.run_clear_row w5 66 5 ty w4.heap.size n (m - n) cp (nums .u8 (bytesOf p.f1)) 64 Tryd.underlying66 sparse_Truncate.zero_u8 HG5.out (by rw [nums, List.length_map, bytesOf_length, HDS0.out]; omega) (by omega)
            have hb6 := below_setRow (Below.refl w4.heap.size w5) (Nat.le_refl _) (nums .u8 (bytesOf (sparse_Truncate.zer p n m))).toArray
            have HG6 := Aside0.mk (blk_setRow HG5.out (nums .u8 (bytesOf (sparse_Truncate.zer p n m))).toArray)
            have HB6 := Aside0.mk (below_setRow HB5.out HLE.out (nums .u8 (bytesOf (sparse_Truncate.zer p n m))).toArray)
            have hp6 : (w5.setRow w4.heap.size (nums .u8 (bytesOf (sparse_Truncate.zer p n m))).toArray).cell? ⟨wr.heap.size, 0, none⟩ = some (.int .i64 p.f0) := (blk_cell ((setRow_other w5 w4.heap.size wr.heap.size _ (by have := HLT.out; omega)).trans HP5.out) 0).trans rfl

            clear hb6
            obtain ⟨w6, hw6⟩ : ∃ w6, w6 = w5.setRow w4.heap.size (nums .u8 (bytesOf (sparse_Truncate.zer p n m))).toArray := ⟨_, rfl⟩
            rw [← hw6] at hclr HG6 HB6 hp6
            clear hw6
            generalize hD : sparse_Truncate.zer p n m = D at *
            clear hD
            go_wp2_with (first
              | (at_builtin; refine sparse_Truncate.wpList_clear_run rfl _ _ rfl _ rfl (hclr _ _) ?_)
              | (refine wpList_load_row rfl 64 (.tmp 12) rfl w4.heap.size rfl 64 (nums .u8 (bytesOf D)).toArray (0, 0) _ HG6.out Tryd.underlying64 rfl (by rw [HI64.out]; simp [nums, bytesOf_length, HDS.out]) ?_)
              | (go_at_call 28; (with_reducible refine (sparse_Write.piece _ D HDS.out _).mono ?_); rintro e w7 ⟨rfl, hb⟩; have HB7 := Aside0.mk (below_step HB6.out hb); clear hb)
              | ((with_reducible refine gate_builtin (b := .append) (xs := #[.tmp 45, .tmp 50]) rfl ?_); at_builtin; refine Kd.R_append k39 (w0 := w) w.heap.size rfl (.tmp 45) (.tmp 50) 22 39 (.agg #[(.int .i64 0), (.string ⟨#[]⟩)]) 24 rfl Tryd.underlying22 info39 rfl (by decide) (by omega) _ (sparse_Truncate.cut (l0.take j) a b gone) (⟨p.f0, D⟩ : S39) [.int .i64 p.f0, .string D] (fun _ => True) (fun _ => False) rfl rfl ?aP (fun _ hk => hk.elim) (fun _ _ => trivial) ?aO ?aB ?aS ?aL ?_
                 case aP => exact k39_mkM _ _ _ (⟨p.f0, D⟩ : S39)
                 case aO => exact Kd.R_below HX.out HB7.out
                 case aB => exact below_step HBW.out HB7.out
                 case aS => exact below_size (below_step HBW.out HB7.out)
                 case aL => have := HLEN.out; have := HCL.out; omega
                 intro v1 w8 ho hb hg hat
                 obtain ⟨A1, c1, hv1⟩ := Kd.R_slice ho
                 rw [List.length_append, List.length_singleton] at hv1
                 subst hv1
                 have HO8 := Aside0.mk ho
                 have HB8 := Aside0.mk hb
                 clear ho hb hg hat))
            go_roundg k1
            case measure => omega
            case rel => exact ⟨j + 1, _, rfl, rfl, ⟨by have := HJ.out; omega⟩, ⟨by rw [sparse_Truncate.cut_snoc l0 j c, HPE.out, if_neg (by rw [HG.out]; decide)]; rw [show sparse_Truncate.clr a b p = ⟨p.f0, D⟩ from HCLR.out]; exact HO8.out⟩, HB8⟩
          · have dl : decide (sparse_Truncate.lo a p < sparse_Truncate.hi b p) = false := decide_eq_false cl
            have HCLR : Aside0 (sparse_Truncate.clr a b p = ⟨p.f0, p.f1⟩) := ⟨by
              unfold sparse_Truncate.clr
              rw [if_neg cl]⟩
            have HDS := Aside0.mk HDS0.out
            have HG6 := Aside0.mk HG5.out
            have HB6 := Aside0.mk HB5.out
            go_wp2_with (first
              | (refine wpList_load_row rfl 64 (.tmp 12) rfl w4.heap.size rfl 64 (nums .u8 (bytesOf p.f1)).toArray (0, 0) _ HG6.out Tryd.underlying64 rfl (by rw [HI64.out]; simp [nums, bytesOf_length, HDS.out]) ?_)
              | (go_at_call 28; (with_reducible refine (sparse_Write.piece _ p.f1 HDS.out _).mono ?_); rintro e w7 ⟨rfl, hb⟩; have HB7 := Aside0.mk (below_step HB6.out hb); clear hb)
              | ((with_reducible refine gate_builtin (b := .append) (xs := #[.tmp 45, .tmp 50]) rfl ?_); at_builtin; refine Kd.R_append k39 (w0 := w) w.heap.size rfl (.tmp 45) (.tmp 50) 22 39 (.agg #[(.int .i64 0), (.string ⟨#[]⟩)]) 24 rfl Tryd.underlying22 info39 rfl (by decide) (by omega) _ (sparse_Truncate.cut (l0.take j) a b gone) (⟨p.f0, p.f1⟩ : S39) [.int .i64 p.f0, .string p.f1] (fun _ => True) (fun _ => False) rfl rfl ?aP (fun _ hk => hk.elim) (fun _ _ => trivial) ?aO ?aB ?aS ?aL ?_
                 case aP => exact k39_mkM _ _ _ (⟨p.f0, p.f1⟩ : S39)
                 case aO => exact Kd.R_below HX.out HB7.out
                 case aB => exact below_step HBW.out HB7.out
                 case aS => exact below_size (below_step HBW.out HB7.out)
                 case aL => have := HLEN.out; have := HCL.out; omega
                 intro v1 w8 ho hb hg hat
                 obtain ⟨A1, c1, hv1⟩ := Kd.R_slice ho
                 rw [List.length_append, List.length_singleton] at hv1
                 subst hv1
                 have HO8 := Aside0.mk ho
                 have HB8 := Aside0.mk hb
                 clear ho hb hg hat))
            go_roundg k1
            case measure => omega
            case rel => exact ⟨j + 1, _, rfl, rfl, ⟨by have := HJ.out; omega⟩, ⟨by rw [sparse_Truncate.cut_snoc l0 j c, HPE.out, if_neg (by rw [HG.out]; decide)]; rw [show sparse_Truncate.clr a b p = ⟨p.f0, p.f1⟩ from HCLR.out]; exact HO8.out⟩, HB8⟩
    · have dJ : decide ((j : Int) < (l0.length : Int)) = false := decide_eq_false (by omega)
      have ht : l0.take j = l0 := List.take_of_length_le (by omega)
      rw [ht] at HX
      go_wp2
      go_ret
      exact ⟨_, rfl, HX.out, HBW.out⟩
set_option maxHeartbeats 4000000 in
theorem sparse_Truncate.gone (W : World) (B : Nat) (n i : Int) (hi0 : 0 ≤ i) (hi1 : i ≤ 72057594037927936) (hn : W.cell? ⟨B, 0, none⟩ = some (.int .i64 n)) :
    Calls Tryd.prog 32 #[.int .i64 i, .pointer (some ⟨B, 0, none⟩)] W fun e w' => e = .returned (.bool (decide (i * 64 ≥ n))) ∧ Below W.heap.size W w' := by
  have e1 : IntKind.i64.wrap (i * 64) = i * 64 := by rw [IntKind.wrap_i64]; omega
  go_enter Tryd.func32, Tryd.ntmps32
  go_wp2
  go_ret
  exact ⟨rfl, Below.refl _ _⟩
/-- What the pieces must be. -/
def sparse_Truncate.okB (l : List S39) : Bool := decide (l.length * 24 ≤ 140737488355328) && l.all fun p => decide (0 ≤ p.f0 ∧ p.f0 ≤ 72057594037927936 ∧ p.f1.size = 64)
theorem sparse_Truncate.ok_len {l : List S39} (h : sparse_Truncate.okB l = true) : l.length * 24 ≤ 140737488355328 := by
  unfold sparse_Truncate.okB at h
  rw [Bool.and_eq_true] at h
  exact of_decide_eq_true h.1
theorem sparse_Truncate.ok_at {l : List S39} (h : sparse_Truncate.okB l = true) (j : Nat) (hj : j < l.length) : 0 ≤ (rd_T39 l (j : Int)).f0 ∧ (rd_T39 l (j : Int)).f0 ≤ 72057594037927936 ∧ (rd_T39 l (j : Int)).f1.size = 64 := by
  unfold sparse_Truncate.okB at h
  rw [Bool.and_eq_true, List.all_eq_true] at h
  refine of_decide_eq_true (h.2 _ ?_)
  unfold rd_T39
  rw [Int.toNat_natCast, List.getD_eq_getElem?_getD, List.getElem?_eq_getElem hj]
  exact List.getElem_mem hj
def sparse_Truncate.f (k : Nat) (l0 : List S39) (a1 a2 : Int) : Option (List S39 × Int × Int) :=
  (sparse_Check.f k l0 a1).bind fun e => if e ≠ 0 then some ([], 0, e) else if a2 < 0 then some ([], 0, 1) else if a2 > 4611686018427387904 then some ([], 0, 130) else
    if sparse_Truncate.okB l0 = true then some (sparse_Truncate.cut l0 a2 4611686018427387904 (fun i => decide (i * 64 ≥ a2)), a2, 0) else none
theorem sparse_Truncate.mono : ∀ a0 a1 a2 k, LeO (sparse_Truncate.f k a0 a1 a2) (sparse_Truncate.f (k + 1) a0 a1 a2) := by
  intro a0 a1 a2 k
  unfold sparse_Truncate.f
  exact LeO.bind (sparse_Check.mono _ _ _) (fun e => LeO.refl _)
set_option maxHeartbeats 8000000 in
set_option maxRecDepth 100000 in
theorem sparse_Truncate.calls (k : Nat) (A0 : Option Addr) (c0 : Nat) (l0 : List S39) (a1 a2 : Int) (r1 : List S39) (r2 r3 : Int) (w : World) (hr0 : Kd.C k39 w A0 l0.length l0) (hc0 : l0.length ≤ c0) (h : sparse_Truncate.f k l0 a1 a2 = some (r1, r2, r3)) :
    Calls Tryd.prog 16 #[.slice A0 l0.length c0, .int .i64 a1, .int .i64 a2] w fun e w' => ∃ v0_ : Value, e = .returned (.tuple #[v0_, .int .i64 r2, .int .i64 r3]) ∧ Kd.R k39 39 w' w.heap.size (fun _ => True) v0_ r1 ∧ Below w.heap.size w w' := by
  unfold sparse_Truncate.f at h
  obtain ⟨ec, hec, h⟩ := Option.bind_eq_some_iff.1 h
  have HEC := Aside0.mk hec
  have HR0 := Aside0.mk hr0
  have HC0 := Aside0.mk hc0
  have hb1 := below_alloc (Below.refl w.heap.size w) (.cells #[.int .i64 a2] 3)
  have HB1 := Aside0.mk hb1
  have hn1 := blk_new w (.cells #[.int .i64 a2] 3)
  have HN1 := Aside0.mk hn1
  clear hec hr0 hc0 hb1 hn1
  split at h
  case isTrue hne =>
    obtain ⟨rfl, rfl, rfl⟩ : r1 = [] ∧ r2 = 0 ∧ r3 = ec := by simpa [eq_comm] using h
    clear h
    have hn : ¬ (r3 = 0) := hne
    go_enter Tryd.func16, Tryd.ntmps16
    go_wp2_with (go_at_call 15; (with_reducible refine (sparse_Check.calls k A0 c0 l0 a1 _ _ (Kd.C_below HR0.out HB1.out) HC0.out HEC.out).mono ?_); rintro e w1 ⟨rfl, hb⟩; have HB := Aside0.mk (below_step HB1.out hb); have HN := Aside0.mk (blk_below HN1.out hb); have hn2 : w1.cell? ⟨w.heap.size, 0, none⟩ = some (.int .i64 a2) := (blk_cell HN.out 0).trans rfl; clear hb)
    go_ret3
    exact ⟨_, rfl, Kd.R_nil _ _ _ _ _, HB.out⟩
  case isFalse he0 =>
    obtain rfl : ec = 0 := by
      by_cases h0 : ec = 0
      · exact h0
      · exact absurd h0 he0
    clear he0
    go_enter Tryd.func16, Tryd.ntmps16
    split at h
    case isTrue hlt =>
      obtain ⟨rfl, rfl, rfl⟩ : r1 = [] ∧ r2 = 0 ∧ r3 = 1 := by simpa [eq_comm] using h
      clear h
      have d1 : decide (a2 < 0) = true := decide_eq_true hlt
      go_wp2_with (go_at_call 15; (with_reducible refine (sparse_Check.calls k A0 c0 l0 a1 _ _ (Kd.C_below HR0.out HB1.out) HC0.out HEC.out).mono ?_); rintro e w1 ⟨rfl, hb⟩; have HB := Aside0.mk (below_step HB1.out hb); have HN := Aside0.mk (blk_below HN1.out hb); have hn2 : w1.cell? ⟨w.heap.size, 0, none⟩ = some (.int .i64 a2) := (blk_cell HN.out 0).trans rfl; clear hb)
      go_ret3
      exact ⟨_, rfl, Kd.R_nil _ _ _ _ _, HB.out⟩
    case isFalse hge =>
      have d1 : decide (a2 < 0) = false := decide_eq_false hge
      split at h
      case isTrue hgt =>
        obtain ⟨rfl, rfl, rfl⟩ : r1 = [] ∧ r2 = 0 ∧ r3 = 130 := by simpa [eq_comm] using h
        clear h
        have d2 : decide (a2 > 4611686018427387904) = true := decide_eq_true hgt
        go_wp2_with (go_at_call 15; (with_reducible refine (sparse_Check.calls k A0 c0 l0 a1 _ _ (Kd.C_below HR0.out HB1.out) HC0.out HEC.out).mono ?_); rintro e w1 ⟨rfl, hb⟩; have HB := Aside0.mk (below_step HB1.out hb); have HN := Aside0.mk (blk_below HN1.out hb); have hn2 : w1.cell? ⟨w.heap.size, 0, none⟩ = some (.int .i64 a2) := (blk_cell HN.out 0).trans rfl; clear hb)
        go_ret3
        exact ⟨_, rfl, Kd.R_nil _ _ _ _ _, HB.out⟩
      case isFalse hle =>
        have d2 : decide (a2 > 4611686018427387904) = false := decide_eq_false hle
        split at h
        case isFalse => cases h
        case isTrue hok =>
        obtain ⟨e1, e2, e3⟩ : sparse_Truncate.cut l0 a2 4611686018427387904 (fun i => decide (i * 64 ≥ a2)) = r1 ∧ a2 = r2 ∧ 0 = r3 := by simpa using h
        subst e1 e2 e3
        clear h
        have HOK := Aside0.mk hok
        clear hok
        have eg : ∀ args w, (callFunc 32 args).run Tryd.prog w = .ok (.enter 32 args) w := fun args w => enters_ Tryd.func32 (by kernel_rfl) rfl args w
        go_upto_region 8 with (go_at_call 15; (with_reducible refine (sparse_Check.calls k A0 c0 l0 a1 _ _ (Kd.C_below HR0.out HB1.out) HC0.out HEC.out).mono ?_); rintro e w1 ⟨rfl, hb⟩; have HB := Aside0.mk (below_step HB1.out hb); have HN := Aside0.mk (blk_below HN1.out hb); have hn2 : w1.cell? ⟨w.heap.size, 0, none⟩ = some (.int .i64 a2) := (blk_cell HN.out 0).trans rfl; clear hb)
        have p0 : 0 ≤ a2 := by omega
        have p1 : a2 ≤ 4611686018427387904 := by omega
        have HBD := Aside0.mk (below_drew HB.out)
        have hnd : w1.drew.cell? ⟨w.heap.size, 0, none⟩ = some (.int .i64 a2) := hn2
        go_region_held3 (fun W' => W'.cell? ⟨w.heap.size, 0, none⟩ = some (.int .i64 a2))
          (first | exact hn2 | exact hnd | exact hn3)
          (first
            | (go_at_call 31; (with_reducible refine (sparse_Truncate.zeroed 32 #[.pointer (some ⟨w.heap.size, 0, none⟩)] eg (fun i => decide (i * 64 ≥ a2)) a2 4611686018427387904 p0 p1 (by decide) (by decide) w1.drew A0 c0 l0 (Kd.C_below HR0.out HBD.out) HC0.out (sparse_Truncate.ok_len HOK.out) (sparse_Truncate.ok_at HOK.out) (fun W i hb h0 h1 => by rw [show (#[Value.int .i64 i] ++ #[Value.pointer (some ⟨w.heap.size, 0, none⟩)] : Array Value) = #[.int .i64 i, .pointer (some ⟨w.heap.size, 0, none⟩)] from rfl]; exact sparse_Truncate.gone W w.heap.size a2 i h0 h1 ((hb.cell (World.block_lt_of_cell? _ _ hnd)).trans hnd))).mono ?_); rintro e w3 ⟨v3, rfl, hr3, hb3⟩; have HR3 := Aside0.mk (Kd.R_lower hr3 (below_size HBD.out)); have HB3 := Aside0.mk (below_step HBD.out hb3); have hn3 := (hb3.cell (World.block_lt_of_cell? _ _ hnd)).trans hnd; clear hr3 hb3))
        go_wp2
        go_ret3
        exact ⟨_, rfl, HR3.out, HB3.out⟩


end Go.Proofs.YtgnffienfjigiaaDoor.PA
