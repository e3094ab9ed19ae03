import Derived.Test.YtgnffienfjigiaaDoorWWords
import Derived.Test.YtgnffienfjigiaaDoorWMore
import Derived.Test.YtgnffienfjigiaaDoorWRepsOne
import Derived.Laws.Tables
import Derived.Lib.AtoiErrMem
import Derived.Laws.CopyOwn
import Derived.Laws.Cover3
import Derived.Lib.Overlaps
import Derived.Lib.BufferWrite
import Derived.Lib.AppendZeros
import Derived.Lib.AppendZerosOnto
import Derived.Laws.Externs
/-! Arrays of bytes in memory: loaded and stored whole; a text's bytes as a row. -/
set_option linter.unusedVariables false
namespace Go.Proofs.YtgnffienfjigiaaDoor.Plain
open Go.RowKit Go.Proofs.YtgnffienfjigiaaDoorW.PrintWords
/-- An array is loaded whole, wherever its cells lie. -/
theorem run_load_arr {P : Program} (w : World) (g o : Nat) (ty : TypeId) {n e : Nat} (vs : List Value) (hu : P.underlying ty = some (.array n e)) (hi : (P.info? ty).map (·.size) = some vs.length)
    (hc : ∀ j v, vs[j]? = some v → w.cell? ⟨g, o + j, none⟩ = some v) : (loadVar ty ⟨g, o, none⟩).run P w = .ok (.agg vs.toArray) w := by
  have hl : (loadCells ⟨g, o, none⟩ vs.length).run P w = .ok vs.toArray w :=
    run_loadCells_list (P := P) w ⟨g, o, none⟩ vs (fun j v hv => by
      have hadd : (⟨g, o, none⟩ : Addr).add j = ⟨g, o + j, none⟩ := by unfold Addr.add; split <;> simp_all
      rw [hadd]
      exact hc j v hv)
  cases hq : P.info? ty with
  | none => simp [hq] at hi
  | some i =>
    have hs : i.size = vs.length := by simpa [hq] using hi
    have hagg : (isAgg ty).run P w = .ok true w := by
      unfold isAgg
      rw [Sem.run_bind, run_underlying hu w]
      rfl
    simp [loadVar, Sem.run_bind, hagg, sizeOf, typeInfo, hq, hs, hl]
/-- []byte(s): a new row of its bytes (there may be room behind). -/
theorem conv_row {P : Program} (w : World) (src dst e : TypeId) (s : ByteArray) (hs : P.underlying src = some .string) (hd : P.underlying dst = some (.slice e)) (he : P.underlying e = some (.int .u8)) :
    ∃ w3 cap, (convert src dst (.string s)).run P w = .ok (.slice (some ⟨w.heap.size, 0, none⟩) s.size cap) w3 ∧ Below w.heap.size w w3 ∧ w.heap.size < w3.heap.size ∧ ∀ j, j < s.size → w3.cell? ⟨w.heap.size, j, none⟩ = some (.int .u8 (bt s j)) := by
  refine ⟨_, _, Lib.run_convert_string_bytes w src dst e s hs hd he, Lib.bytesWorld_below _ _ _, by rw [Lib.bytesWorld_size]; omega, fun j hj => ?_⟩
  rw [Lib.bytesWorld_cell w e s j hj]
  have h1 : (s.data.toList.getD j 0).toNat = bt s (j : Int) := by
    unfold bt
    rw [Int.toNat_natCast, dif_pos hj]
    have hl : j < s.data.toList.length := by rw [Array.length_toList]; exact hj
    rw [List.getD_eq_getElem?_getD, List.getElem?_eq_getElem hl]
    rfl
  rw [h1]
theorem blk_setRow {w : World} {g : Nat} {t : TypeId} {cs : Array Value} (h : w.heap[g]? = some (.cells cs t (0, 0))) (cs' : Array Value) : (w.setRow g cs').heap[g]? = some (.cells cs' t (0, 0)) := by
  have hl := blk_lt h
  simp [World.setRow, Array.getElem?_modify, h]
theorem nums_get (k : IntKind) (xs : List Int) (j : Nat) (v : Value) (h : (nums k xs)[j]? = some v) : ∃ x, xs[j]? = some x ∧ v = .int k x := by
  unfold nums at h
  rw [List.getElem?_map] at h
  cases hx : xs[j]? with
  | none => rw [hx] at h; cases h
  | some x => rw [hx] at h; exact ⟨x, rfl, (Option.some.inj h).symm⟩
/-- A whole value is loaded, at the operation. -/
theorem wpList_load_arr {P : Program} {ops : Array Oper} {rest : List Oper} {o : Oper} {a : Act} {w : World} {Q : Exit → Act → World → Prop} (hgd : o.guard = none) (ty : TypeId) (x : Operand) (ho : o.op = .load ty x)
    (g k : Nat) (hx : a.eval x = .pointer (some ⟨g, k, none⟩)) (v : Value) (hl : (loadVar ty ⟨g, k, none⟩).run P w = .ok v w)
    (h : wpList P ops Q rest (a.put o.dst v) w) : wpList P ops Q (o :: rest) a w :=
  wpList_plain hgd fun _ hK => by
    unfold Oper.wp execOp
    simp only [ho, hx, Instr.loadAt, Instr.sureAddr, Sem.run_bind, Sem.run_pure, Result.andThen_ok, hl]
    exact hK _ _ h
theorem strOf_bytesOf (s : ByteArray) : strOfNums (bytesOf s) = s := by
  have h : (bytesOf s).map (fun n => UInt8.ofNat n.toNat) = s.data.toList := by
    unfold bytesOf
    rw [List.map_map]
    conv => rhs; rw [← List.map_id s.data.toList]
    apply List.map_congr_left
    intro b hb
    simp
  show (⟨((bytesOf s).map (fun n => UInt8.ofNat n.toNat)).toArray⟩ : ByteArray) = s
  rw [h]
/-- copy(d, s) at elements of several cells, d lying in a row that is known whole. -/
theorem run_copy_rowN {P : Program} (w : World) (dT sT ty elem : TypeId) (sz : Nat) (g o dLen dCap : Nat) (a : Addr) (sLen sCap : Nat) (cur : List Value) (t : TypeId) (cs : List Value)
    (hu : P.underlying dT = some (.slice elem)) (hs : (P.info? elem).map (·.size) = some sz)
    (hg : w.heap[g]? = some (.cells cur.toArray t (0, 0))) (hn : cs.length = Nat.min sLen dLen * sz)
    (hsrc : ∀ j v, cs[j]? = some v → w.cell? (a.add j) = some v) (hfit : o + cs.length ≤ cur.length) (h1 : ∀ v ∈ cs, v.oneCell' = true) :
    (Builtin.copy_ #[dT, sT] ty #[.slice (some ⟨g, o, none⟩) dLen dCap, .slice (some a) sLen sCap]).run P w =
      .ok (goInt (Nat.min sLen dLen)) (w.setRow g (splice cur o cs).toArray) := by
  have hl := run_loadCells_list (P := P) w a cs hsrc
  have hst := run_storeCells_at P g o t cs 0 cur.toArray w hg (by simpa using hfit) h1
  rw [hn] at hl
  cases hq : P.info? elem with
  | none => simp [hq] at hs
  | some i =>
    have hi : i.size = sz := by simpa [hq] using hs
    simp [Builtin.copy_, run_underlying hu, Builtin.lenOf, Builtin.firstCells, sizeOf, typeInfo, hq, hi, hl, hst, splice]
/-- The same as a step of the walk, in a plain region .. -/
theorem wpList_copy_runN {P : Program} {w : World} {ops : Array Oper} {rest : List Oper} {o : Oper} {a : Act} {Q : Exit → Act → World → Prop} (hgd : o.guard = none) (d s : Operand) (t t' : TypeId)
    (ho : o.op = .call { callee := .builtin .copy, args := #[d, s], argTypes := #[t, t'] }) (v u : Value) (hd : a.eval d = v) (hs : a.eval s = u) {v' : Value} {w' : World}
    (hr : (Builtin.copy_ #[t, t'] o.type #[v, u]).run P w = .ok v' w') (h : wpList P ops Q rest (a.put o.dst v') w') : wpList P ops Q (o :: rest) a w :=
  wpList_plain hgd fun _ hK => by
    unfold Oper.wp execOp
    simp only [ho, resolve, invoke, builtin, Sem.run_bind, Sem.run_pure, Result.andThen_ok, List.map_toArray, List.map_cons, List.map_nil, hd, hs, hr]
    exact hK _ _ h
/-- .. and in one that draws its order. -/
theorem step_copy_runN {P : Program} {ops : Array Oper} {o : Oper} {a : Act} {w : World} {K : Act → World → Prop} {Q : Exit → Act → World → Prop} {E : Prop}
    (hg : o.guard = none) (d x : Operand) (dT sT : TypeId) (hop : o.op = Op.call { callee := Callee.builtin Builtin.copy, args := #[d, x], argTypes := #[dT, sT] })
    (v u : Value) (hd : a.eval d = v) (hx : a.eval x = u) {v' : Value} {w' : World} (hr : (Builtin.copy_ #[dT, sT] o.type #[v, u]).run P w = .ok v' w') (hK : K (a.put o.dst v') w') :
    if Region.wanted o (yielded ops a.tmps) = true then Oper.wp P o a w K Q else E := by
  have hw : Region.wanted o (yielded ops a.tmps) = true := by simp [Region.wanted, hg]
  rw [if_pos hw]
  unfold Oper.wp
  simp [execOp, hop, resolve, invoke, builtin, hd, hx, hr, Result.andThen]
  exact hK
/-! Elements of several cells put in between. -/
theorem reps_take {α : Type} {R : α → List Value → Prop} {size : Nat} {ps : List α} {cs : List Value} (h : Reps R size ps cs) (i : Nat) (hi : i ≤ ps.length) : Reps R size (ps.take i) (cs.take (i * size)) := by
  refine ⟨by rw [List.length_take, List.length_take, h.1, Nat.min_eq_left hi, Nat.min_eq_left (Nat.mul_le_mul_right _ hi)], fun j p hj => ?_⟩
  rw [List.getElem?_take] at hj
  split at hj
  case isFalse => cases hj
  case isTrue hji =>
    have hm : j * size + size ≤ i * size := by rw [← Nat.succ_mul]; exact Nat.mul_le_mul_right _ hji
    rw [List.drop_take, List.take_take, Nat.min_eq_left (by omega)]
    exact h.2 j p hj
theorem reps_drop {α : Type} {R : α → List Value → Prop} {size : Nat} {ps : List α} {cs : List Value} (h : Reps R size ps cs) (i : Nat) : Reps R size (ps.drop i) (cs.drop (i * size)) := by
  refine ⟨by rw [List.length_drop, List.length_drop, h.1, Nat.sub_mul], fun j p hj => ?_⟩
  rw [List.getElem?_drop] at hj
  rw [List.drop_drop, ← Nat.add_mul]
  exact h.2 _ p hj
theorem reps_append {α : Type} {R : α → List Value → Prop} {size : Nat} {ps qs : List α} {cs ds : List Value} (h : Reps R size ps cs) (h2 : Reps R size qs ds) : Reps R size (ps ++ qs) (cs ++ ds) := by
  refine ⟨by rw [List.length_append, List.length_append, h.1, h2.1, Nat.add_mul], fun j p hj => ?_⟩
  rcases Nat.lt_or_ge j ps.length with hl | hl
  · rw [List.getElem?_append_left hl] at hj
    have h1 : j * size + size ≤ cs.length := by rw [h.1, ← Nat.succ_mul]; exact Nat.mul_le_mul_right _ hl
    rw [List.drop_append_of_le_length (by omega), List.take_append_of_le_length (by rw [List.length_drop]; omega)]
    exact h.2 j p hj
  · rw [List.getElem?_append_right hl] at hj
    have e : j * size = cs.length + (j - ps.length) * size := by rw [h.1, ← Nat.add_mul]; congr 1; omega
    rw [e, List.drop_append, List.drop_of_length_le (by omega), List.nil_append, Nat.add_sub_cancel_left]
    exact h2.2 _ p hj
theorem reps_insert {α : Type} {R : α → List Value → Prop} {size : Nat} {ps : List α} {cs c : List Value} {p : α} (h : Reps R size ps cs) (hp : R p c) (hc : c.length = size) (i : Nat) (hi : i ≤ ps.length) :
    Reps R size (ps.take i ++ p :: ps.drop i) (cs.take (i * size) ++ (c ++ cs.drop (i * size))) :=
  reps_append (reps_take h i hi) (Reps.front hp hc (reps_drop h i) rfl)
theorem splice_shift {α : Type} (A B C p : List α) (hp : p.length = 2) (hC : 2 ≤ C.length) : splice (splice (A ++ (B ++ C)) (A.length + 2) B) A.length p = A ++ (p ++ (B ++ C.drop 2)) := by
  have e1 : splice (A ++ (B ++ C)) (A.length + 2) B = A ++ ((B ++ C).take 2 ++ (B ++ C.drop 2)) := by
    unfold splice
    rw [List.take_append, List.take_of_length_le (by omega), Nat.add_sub_cancel_left, List.append_assoc, List.drop_append, List.drop_of_length_le (by omega), List.nil_append, show A.length + 2 + B.length - A.length = B.length + 2 by omega, List.drop_append, List.drop_of_length_le (by omega), List.nil_append, Nat.add_sub_cancel_left]
  have ht : ((B ++ C).take 2).length = 2 := by rw [List.length_take, List.length_append]; omega
  rw [e1]
  unfold splice
  rw [List.take_append, List.take_of_length_le (by omega), Nat.sub_self, List.take_zero, List.append_nil, hp, List.drop_append, List.drop_of_length_le (by omega), List.nil_append, Nat.add_sub_cancel_left, List.drop_append, List.drop_of_length_le (by omega), List.nil_append, ht, Nat.sub_self, List.drop_zero]
theorem splice_grow {α : Type} (A D p B : List α) (hp : p.length = 2) : splice (splice (A ++ D) A.length p) (A.length + 2) B = A ++ (p ++ (B ++ (D.drop 2).drop B.length)) := by
  have e1 : splice (A ++ D) A.length p = A ++ (p ++ D.drop 2) := by
    unfold splice
    rw [List.take_append, List.take_of_length_le (by omega), Nat.sub_self, List.take_zero, List.append_nil, hp, List.drop_append, List.drop_of_length_le (by omega), List.nil_append, Nat.add_sub_cancel_left]
  rw [e1]
  unfold splice
  rw [List.take_append, List.take_of_length_le (by omega), Nat.add_sub_cancel_left, List.take_append, List.take_of_length_le (by omega), hp, Nat.sub_self, List.take_zero, List.append_nil, List.append_assoc, List.drop_append, List.drop_of_length_le (by omega), List.nil_append, show A.length + 2 + B.length - A.length = p.length + B.length by omega, List.drop_append, List.drop_of_length_le (by omega), List.nil_append, Nat.add_sub_cancel_left]
/-- copy(d, s), s a text of any length, d lying in a row of bytes that is known whole. -/
theorem run_copy_row_str {P : Program} (w : World) (dT sT ty elem : TypeId) (g o dLen dCap : Nat) (s : ByteArray) (cur : List Value) (t : TypeId)
    (hu : P.underlying dT = some (.slice elem)) (hs : (P.info? elem).map (·.size) = some 1) (hg : w.heap[g]? = some (.cells cur.toArray t (0, 0))) (hfit : o + Nat.min s.size dLen ≤ cur.length) :
    (Builtin.copy_ #[dT, sT] ty #[.slice (some ⟨g, o, none⟩) dLen dCap, .string s]).run P w =
      .ok (goInt (Nat.min s.size dLen)) (w.setRow g (splice cur o ((nums .u8 (bytesOf s)).take (Nat.min s.size dLen))).toArray) := by
  have hl0 : (nums .u8 (bytesOf s)).length = s.size := by rw [nums, List.length_map, bytesOf_length]
  have hlen : ((nums .u8 (bytesOf s)).take (Nat.min s.size dLen)).length = Nat.min s.size dLen := by rw [List.length_take, hl0]; exact Nat.min_eq_left (Nat.min_le_left _ _)
  have h1 : ∀ v ∈ (nums .u8 (bytesOf s)).take (Nat.min s.size dLen), v.oneCell' = true := by
    intro v hv
    have hv' := List.mem_of_mem_take hv
    simp only [nums, List.mem_map] at hv'
    obtain ⟨b, _, rfl⟩ := hv'
    rfl
  have hst := run_storeCells_at P g o t ((nums .u8 (bytesOf s)).take (Nat.min s.size dLen)) 0 cur.toArray w hg (by rw [hlen]; simpa using hfit) h1
  have htk : List.take (Nat.min s.size dLen) (List.map (fun b : UInt8 => Value.int IntKind.u8 (b.toNat : Int)) s.data.toList) = (nums .u8 (bytesOf s)).take (Nat.min s.size dLen) := by
    rw [nums, bytesOf, List.map_map]
    rfl
  simp only [Nat.add_zero] at hst
  cases hq : P.info? elem with
  | none => simp [hq] at hs
  | some i =>
    have hst3 : (storeCells ⟨g, o, none⟩ ((nums .u8 (bytesOf s)).take (Nat.min s.size dLen))).run P w = .ok () (w.setRow g (splice cur o ((nums .u8 (bytesOf s)).take (Nat.min s.size dLen))).toArray) := by
      rw [hst]
      simp [splice]
    clear hst
    have hst := hst3
    clear hst3
    generalize hn : Nat.min s.size dLen = n at *
    simp [Builtin.copy_, run_underlying hu, Builtin.lenOf, Builtin.firstCells, sizeOf, typeInfo, hq, hn]
    rw [htk, hst]
    simp [Result.andThen]
end Go.Proofs.YtgnffienfjigiaaDoor.Plain
