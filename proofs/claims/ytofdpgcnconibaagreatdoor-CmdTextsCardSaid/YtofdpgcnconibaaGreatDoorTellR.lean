-- WRITTEN BY a program of this session (mergeset.py): several texts as one
import Derived.Test.YtofdpgcnconibaaGreatDoorRows
import Derived.LaidLaws
import Derived.LaidSub
import Derived.LaidHandle
import Derived.Stop.LaidErr
import Derived.Lib.LaidTab
import Derived.Lib.ItoaNum
import Derived.Lib.ItoaLen
import Derived.Shelf.Strconv.Itoa3
import Derived.Below
import Derived.WalkKit
import Derived.LaidEql
import Derived.Stop.Asserts
import Derived.RowKitTokens
import Derived.Test.YtofdpgcnconibaaGreatDoorFew
import Derived.Test.YtofdpgcnconibaaGreatDoorPlain
set_option linter.unusedVariables false
set_option linter.unusedSimpArgs false
/-! What this claim's row lists, as the walks read it: strconv's table of powers of ten, its two errors. -/
namespace Go.Proofs.YtofdpgcnconibaaGreatDoor
open Go.RowKit
/-- The listed variables that are read lie as the text lays them. -/
def Tabs (w : World) : Prop := Lib.TabIs Tryz.prog w "internal/strconv.uint64pow10" .u64 Lib.pow10Tab ∧
  (∃ tp p, w.var? Tryz.prog "strconv.ErrSyntax" = some #[.iface tp p]) ∧ (∃ tp p, w.var? Tryz.prog "strconv.ErrRange" = some #[.iface tp p])
  ∧ w.cell? ⟨0, 0, none⟩ = some (.iface 146 (.agg #[.pointer (some ⟨9, 55, none⟩)]))
theorem Tabs.errs {w : World} (h : Tabs w) : (∃ tp p, w.var? Tryz.prog "strconv.ErrSyntax" = some #[.iface tp p]) ∧ (∃ tp p, w.var? Tryz.prog "strconv.ErrRange" = some #[.iface tp p]) :=
  ⟨h.2.1, h.2.2.1⟩
theorem var_on {w w' : World} {n : String} {c : Array Value} (h : w.var? Tryz.prog n = some c) (hb : Below w.heap.size w w') : w'.var? Tryz.prog n = some c := by
  unfold World.var? at h ⊢
  cases hg : Tryz.prog.globalNamed n with
  | none => rw [hg] at h; cases h
  | some g =>
    rw [hg] at h
    simp only [Option.bind_some] at h ⊢
    have hlt : g < w.heap.size := by
      rcases Nat.lt_or_ge g w.heap.size with h1 | h1
      · exact h1
      · rw [Array.getElem?_eq_none h1] at h; cases h
    rw [hb.block g hlt]
    exact h
theorem cell_on {w w' : World} {a : Addr} {v : Value} (h : w.cell? a = some v) (hb : Below w.heap.size w w') : w'.cell? a = some v := by
  have hlt : a.block < w.heap.size := by
    rcases Nat.lt_or_ge a.block w.heap.size with h1 | h1
    · exact h1
    · unfold World.cell? at h
      rw [Array.getElem?_eq_none h1] at h; cases h
  rw [hb.cell hlt]
  exact h
theorem Tabs.on {w w' : World} (h : Tabs w) (hb : Below w.heap.size w w') : Tabs w' := by
  obtain ⟨h1, ⟨t2, p2, h2⟩, ⟨t3, p3, h3⟩, h4⟩ := h
  exact ⟨var_on h1 hb, ⟨t2, p2, var_on h2 hb⟩, ⟨t3, p3, var_on h3 hb⟩, cell_on h4 hb⟩
/-- The one row of that name. -/
theorem errRow (u : TypeId) (h : Tryz.prog.typeName? 3 u = some "*errors.errorString") : u = 201 := by
  have e : "*" ++ "errors.errorString" = "*errors.errorString" := by decide
  exact typeName_ptr_named (nm := "errors.errorString") (by rw [e]; kernel_rfl) (by kernel_rfl) (by decide) u (by rw [e]; exact h)
/-- The list, but for handles. -/
def plainList : List (String × DataW Unit) := [("math/bits.deBruijn32tab", Rows.laid_math_bits_deBruijn32tab), ("math/bits.deBruijn64tab", Rows.laid_math_bits_deBruijn64tab), ("internal/strconv.uint64pow10", Rows.laid_internal_strconv_uint64pow10), ("unicode/utf8.acceptRanges", Rows.laid_unicode_utf8_acceptRanges), ("strconv.ErrRange", Rows.laid_strconv_ErrRange), ("strconv.ErrSyntax", Rows.laid_strconv_ErrSyntax), ("unicode/utf8.first", Rows.laid_unicode_utf8_first)]
theorem Tabs.of_laid' {W : World} (hL : laidMet Tryz.prog plainList W) : Lib.TabIs Tryz.prog W "internal/strconv.uint64pow10" .u64 Lib.pow10Tab ∧
    (∃ tp p, W.var? Tryz.prog "strconv.ErrSyntax" = some #[.iface tp p]) ∧ (∃ tp p, W.var? Tryz.prog "strconv.ErrRange" = some #[.iface tp p]) := by
  have h3 := hL.tail.tail
  refine ⟨Lib.tabIs_of_head (g := 6) (t := 210) (e := 64) (n := 20) (by kernel_rfl) (by kernel_rfl) Tryz.underlying210 Tryz.underlying64 (by kernel_rfl) (by kernel_rfl) h3, ?_, ?_⟩
  · obtain ⟨a0, s0, hv0, -, -, -⟩ := laid_sentinel (g := 2) h3.tail.tail.tail (by kernel_rfl) (by kernel_rfl) Tryz.underlying55 errRow Tryz.underlying201 Tryz.underlying203 rfl rfl Tryz.underlying9 (by kernel_rfl) (by kernel_rfl)
    exact ⟨_, _, hv0⟩
  · obtain ⟨a0, s0, hv0, -, -, -⟩ := laid_sentinel (g := 3) h3.tail.tail (by kernel_rfl) (by kernel_rfl) Tryz.underlying55 errRow Tryz.underlying201 Tryz.underlying203 rfl rfl Tryz.underlying9 (by kernel_rfl) (by kernel_rfl)
    exact ⟨_, _, hv0⟩
theorem hRt : (Tryz.prog.cutTypes.find? (·.1 == "internal/reflectlite.rtype")).map (·.2) = some 146 := by kernel_rfl
theorem hOneRow : ((List.range 243).filter fun t => Tryz.prog.rowNamed t [101, 114, 114, 111, 114]) = [55] := by kernel_rfl
theorem hSize : Tryz.prog.types.size = 243 := by kernel_rfl
theorem handle_of {W : World} (h : handlesMet Tryz.prog [("errors.errorType", Rows.laid_errors_errorType)] W) : W.cell? ⟨0, 0, none⟩ = some (.iface 146 (.agg #[.pointer (some ⟨9, 55, none⟩)])) := by
  obtain ⟨name, u, ty, e1, e2, e3, e4, e5⟩ := h _ (List.mem_singleton.2 rfl)
  have en : name = [101, 114, 114, 111, 114] := (Option.some.inj e1).symm
  subst en
  obtain rfl := Option.some.inj (hRt.symm.trans e2)
  have hm : ty ∈ (List.range 243).filter fun t => Tryz.prog.rowNamed t [101, 114, 114, 111, 114] := List.mem_filter.2 ⟨List.mem_range.2 (by rw [← hSize]; exact e3), e4⟩
  rw [hOneRow] at hm
  obtain rfl := List.mem_singleton.1 hm
  have hh : typeHandle Tryz.prog 55 = .pointer (some ⟨9, 55, none⟩) := by kernel_rfl
  rw [hh] at e5
  have et : Tryz.prog.globalNamed "errors.errorType" = some 0 := by kernel_rfl
  simpa using World.var?_cell et e5 0
theorem Tabs.of_laid {W : World} (hL : laidMetH Tryz.prog Rows.cmdTextsRow.laid W) : Tabs W := by
  have h := laidMetH_iff.1 hL
  have e : (Rows.cmdTextsRow.laid.filter fun x => x.2.handleName?.isNone) = plainList := by kernel_rfl
  rw [e] at h
  obtain ⟨h1, h2, h3⟩ := Tabs.of_laid' h.1
  have e2 : (Rows.cmdTextsRow.laid.filter fun x => x.2.handleName?.isSome) = [("errors.errorType", Rows.laid_errors_errorType)] := by kernel_rfl
  rw [e2] at h
  exact ⟨h1, h2, h3, handle_of h.2⟩
end Go.Proofs.YtofdpgcnconibaaGreatDoor
/-! errors.As at this program's targets (after the worked text of the toy 'toyas'): an error number; no such error. -/
namespace Go.Proofs.YtofdpgcnconibaaGreatDoor.ErrAs
open Go.RowKit Go.Extern.Stop Go.Stop Go.Extern
theorem rlm (z : Sem Value) (f : TypeId → Addr → Nat → Nat → Sem Value) (v : Value) :
    ReflectliteValue.method z f #[v] = (do match ← ReflectliteValue.parts v with | none => z | some (t, a, fl) => f t a fl (fl % 32)) := rfl
theorem rls (v x : Value) : ReflectliteValue.set #[v, x] = (do
    let (some (dst, a, fl), some (src, b, _)) := (← ReflectliteValue.parts v, ← ReflectliteValue.parts x)
      | unsupported (.noEntry "extern/(internal/reflectlite.Value).Set.zeroValue")
    if fl / ReflectliteValue.flagAddr % 2 == 0 then unsupported (.noEntry "extern/(internal/reflectlite.Value).Set.unaddressable")
    let val ← loadVar src b
    if ← Rtype.directlyAssignable dst src then storeVar dst a val
    else if ← Rtype.implements dst src then
      if (← Rtype.kind src) == 20 then
        match val with
        | .nilIface => unsupported (.noEntry "extern/reflectlite: a nil value of one interface type handed on as a value of another")
        | _ => storeVar dst a val
      else storeVar dst a (.iface src val)
    else panicString ("reflectlite.Set: value of type " ++ (← Rtype.spelt src) ++ " is not assignable to type " ++ (← Rtype.spelt dst))
    pure (.tuple #[])) := rfl
theorem methodKind (h : Value) (w : World) : (Go.method 343 146 (.agg #[h]) "Kind").run Tryz.prog w = .ok (154, h) w := by kernel_rfl
theorem methodElem (h : Value) (w : World) : (Go.method 343 146 (.agg #[h]) "Elem").run Tryz.prog w = .ok (170, .agg #[h]) w := by kernel_rfl
theorem methodImplements (h : Value) (w : World) : (Go.method 343 146 (.agg #[h]) "Implements").run Tryz.prog w = .ok (171, .agg #[h]) w := by kernel_rfl
theorem methodAssignableTo (h : Value) (w : World) : (Go.method 343 146 (.agg #[h]) "AssignableTo").run Tryz.prog w = .ok (168, .agg #[h]) w := by kernel_rfl
/-! the target *api.Errno -/
theorem valueOfPE (t : Addr) (w : World) : (ReflectliteValue.unpack (.iface 110 (.pointer (some t)))).run Tryz.prog w
    = .ok (.agg #[.pointer (some ⟨9, 110, none⟩), .pointer (some ⟨w.heap.size, 0, none⟩), .int .u64 150]) (w.alloc (.cells #[.pointer (some t)] 110)) := by kernel_rfl
theorem typePE (a : Addr) (w : World) : (ReflectliteValue.methodAny (ReflectliteValue.valueError "reflectlite.Value.Type" 0) (fun t _ _ _ => ReflectliteType.toType t) #[.agg #[.pointer (some ⟨9, 110, none⟩), .pointer (some a), .int .u64 150]]).run Tryz.prog w
    = .ok (.iface 146 (.agg #[.pointer (some ⟨9, 110, none⟩)])) w := by kernel_rfl
theorem kindPE (w : World) : ((ReflectliteType.abiMethod fun t => (fun a : Nat => Value.int IntKind.u8 (a : Int)) <$> Rtype.kind t) #[.pointer (some ⟨9, 110, none⟩)]).run Tryz.prog w = .ok (.int .u8 22) w := by kernel_rfl
theorem kindE (w : World) : ((ReflectliteType.abiMethod fun t => (fun a : Nat => Value.int IntKind.u8 (a : Int)) <$> Rtype.kind t) #[.pointer (some ⟨9, 27, none⟩)]).run Tryz.prog w = .ok (.int .u8 2) w := by kernel_rfl
theorem partsPE (a : Addr) (w : World) : (ReflectliteValue.parts (.agg #[.pointer (some ⟨9, 110, none⟩), .pointer (some a), .int .u64 150])).run Tryz.prog w = .ok (some (110, a, 150)) w := by kernel_rfl
theorem isNilPE (a p : Addr) (W : World) (ha : W.cell? a = some (.pointer (some p))) :
    (ReflectliteValue.method (ReflectliteValue.valueError "reflectlite.Value.IsNil" 0) ReflectliteValue.isNil #[.agg #[.pointer (some ⟨9, 110, none⟩), .pointer (some a), .int .u64 150]]).run Tryz.prog W = .ok (.bool false) W := by
  rw [rlm]
  simp only [Sem.run_bind, partsPE, Result.andThen]
  simp [ReflectliteValue.isNil, loadVar, isAgg, underlying, Tryz.underlying110, ha, Result.andThen]
theorem elemPE (w : World) : (ReflectliteType.method ReflectliteType.elem #[.agg #[.pointer (some ⟨9, 110, none⟩)]]).run Tryz.prog w = .ok (.iface 146 (.agg #[.pointer (some ⟨9, 27, none⟩)])) w := by kernel_rfl
theorem implementsE (w : World) : (ReflectliteType.relation "Implements" ReflectliteType.implements_ #[.agg #[.pointer (some ⟨9, 27, none⟩)], .iface 146 (.agg #[.pointer (some ⟨9, 55, none⟩)])]).run Tryz.prog w = .ok (.bool true) w := by kernel_rfl
theorem typeOfE (v : Value) (w : World) : (ReflectliteType.typeOf #[.iface 27 v]).run Tryz.prog w = .ok (.iface 146 (.agg #[.pointer (some ⟨9, 27, none⟩)])) w := by kernel_rfl
theorem assignableE (w : World) : (ReflectliteType.relation "AssignableTo" ReflectliteType.assignableTo #[.agg #[.pointer (some ⟨9, 27, none⟩)], .iface 146 (.agg #[.pointer (some ⟨9, 27, none⟩)])]).run Tryz.prog w = .ok (.bool true) w := by kernel_rfl
theorem valueOfE (c : Int) (w : World) : (ReflectliteValue.unpack (.iface 27 (.int .i64 c))).run Tryz.prog w
    = .ok (.agg #[.pointer (some ⟨9, 27, none⟩), .pointer (some ⟨w.heap.size, 0, none⟩), .int .u64 130]) (w.alloc (.cells #[.int .i64 c] 27)) := by kernel_rfl
theorem elemOfPE (w : World) : (Rtype.elem? 110).run Tryz.prog w = .ok (some 27) w := by kernel_rfl
theorem mkE (p : Addr) (w : World) : (ReflectliteValue.mk 27 p ReflectliteValue.flagAddr).run Tryz.prog w = .ok (.agg #[.pointer (some ⟨9, 27, none⟩), .pointer (some p), .int .u64 386]) w := by kernel_rfl
theorem elemVPE (a p : Addr) (W : World) (ha : W.cell? a = some (.pointer (some p))) :
    (ReflectliteValue.method (ReflectliteValue.valueError "reflectlite.Value.Elem" 0) ReflectliteValue.elem #[.agg #[.pointer (some ⟨9, 110, none⟩), .pointer (some a), .int .u64 150]]).run Tryz.prog W
      = .ok (.agg #[.pointer (some ⟨9, 27, none⟩), .pointer (some p), .int .u64 386]) W := by
  rw [rlm]
  simp only [Sem.run_bind, partsPE, Result.andThen]
  simp [ReflectliteValue.elem, loadVar, isAgg, underlying, Tryz.underlying110, ha, Result.andThen, elemOfPE, mkE]
theorem partsEa (a : Addr) (w : World) : (ReflectliteValue.parts (.agg #[.pointer (some ⟨9, 27, none⟩), .pointer (some a), .int .u64 386])).run Tryz.prog w = .ok (some (27, a, 386)) w := by kernel_rfl
theorem partsE (a : Addr) (w : World) : (ReflectliteValue.parts (.agg #[.pointer (some ⟨9, 27, none⟩), .pointer (some a), .int .u64 130])).run Tryz.prog w = .ok (some (27, a, 130)) w := by kernel_rfl
theorem directE (w : World) : (Rtype.directlyAssignable 27 27).run Tryz.prog w = .ok true w := by kernel_rfl
theorem setE (ta b : Addr) (c : Int) (old : Value) (W : World) (hb : W.cell? b = some (.int .i64 c)) (ht : W.cell? ta = some old) (hf : W.frozen? ta = false) :
    (ReflectliteValue.set #[.agg #[.pointer (some ⟨9, 27, none⟩), .pointer (some ta), .int .u64 386], .agg #[.pointer (some ⟨9, 27, none⟩), .pointer (some b), .int .u64 130]]).run Tryz.prog W
      = .ok (.tuple #[]) (W.setCell ta (.int .i64 c)) := by
  rw [rls]
  simp only [Sem.run_bind, partsEa, partsE, Result.andThen]
  simp [ReflectliteValue.flagAddr, loadVar, isAgg, underlying, Tryz.underlying27, hb, Result.andThen, directE, storeVar, Value.cells, storeCells, Addr.add]
  rw [run_store Tryz.prog W ta _ _ (by rfl)]
  simp [ht, hf]
/-! the target **api.RecordError -/
theorem valueOfR (t : Addr) (w : World) : (ReflectliteValue.unpack (.iface 116 (.pointer (some t)))).run Tryz.prog w
    = .ok (.agg #[.pointer (some ⟨9, 116, none⟩), .pointer (some ⟨w.heap.size, 0, none⟩), .int .u64 150]) (w.alloc (.cells #[.pointer (some t)] 116)) := by kernel_rfl
theorem typeR (a : Addr) (w : World) : (ReflectliteValue.methodAny (ReflectliteValue.valueError "reflectlite.Value.Type" 0) (fun t _ _ _ => ReflectliteType.toType t) #[.agg #[.pointer (some ⟨9, 116, none⟩), .pointer (some a), .int .u64 150]]).run Tryz.prog w
    = .ok (.iface 146 (.agg #[.pointer (some ⟨9, 116, none⟩)])) w := by kernel_rfl
theorem kindPR (w : World) : ((ReflectliteType.abiMethod fun t => (fun a : Nat => Value.int IntKind.u8 (a : Int)) <$> Rtype.kind t) #[.pointer (some ⟨9, 116, none⟩)]).run Tryz.prog w = .ok (.int .u8 22) w := by kernel_rfl
theorem kindR (w : World) : ((ReflectliteType.abiMethod fun t => (fun a : Nat => Value.int IntKind.u8 (a : Int)) <$> Rtype.kind t) #[.pointer (some ⟨9, 115, none⟩)]).run Tryz.prog w = .ok (.int .u8 22) w := by kernel_rfl
theorem partsR (a : Addr) (w : World) : (ReflectliteValue.parts (.agg #[.pointer (some ⟨9, 116, none⟩), .pointer (some a), .int .u64 150])).run Tryz.prog w = .ok (some (116, a, 150)) w := by kernel_rfl
theorem isNilR (a p : Addr) (W : World) (ha : W.cell? a = some (.pointer (some p))) :
    (ReflectliteValue.method (ReflectliteValue.valueError "reflectlite.Value.IsNil" 0) ReflectliteValue.isNil #[.agg #[.pointer (some ⟨9, 116, none⟩), .pointer (some a), .int .u64 150]]).run Tryz.prog W = .ok (.bool false) W := by
  rw [rlm]
  simp only [Sem.run_bind, partsR, Result.andThen]
  simp [ReflectliteValue.isNil, loadVar, isAgg, underlying, Tryz.underlying116, ha, Result.andThen]
theorem elemR (w : World) : (ReflectliteType.method ReflectliteType.elem #[.agg #[.pointer (some ⟨9, 116, none⟩)]]).run Tryz.prog w = .ok (.iface 146 (.agg #[.pointer (some ⟨9, 115, none⟩)])) w := by kernel_rfl
theorem implementsR (w : World) : (ReflectliteType.relation "Implements" ReflectliteType.implements_ #[.agg #[.pointer (some ⟨9, 115, none⟩)], .iface 146 (.agg #[.pointer (some ⟨9, 55, none⟩)])]).run Tryz.prog w = .ok (.bool true) w := by kernel_rfl
theorem notAssignableR (w : World) : (ReflectliteType.relation "AssignableTo" ReflectliteType.assignableTo #[.agg #[.pointer (some ⟨9, 27, none⟩)], .iface 146 (.agg #[.pointer (some ⟨9, 115, none⟩)])]).run Tryz.prog w = .ok (.bool false) w := by kernel_rfl
/-! the target **api.PartError -/
theorem valueOfP (t : Addr) (w : World) : (ReflectliteValue.unpack (.iface 112 (.pointer (some t)))).run Tryz.prog w
    = .ok (.agg #[.pointer (some ⟨9, 112, none⟩), .pointer (some ⟨w.heap.size, 0, none⟩), .int .u64 150]) (w.alloc (.cells #[.pointer (some t)] 112)) := by kernel_rfl
theorem typeP (a : Addr) (w : World) : (ReflectliteValue.methodAny (ReflectliteValue.valueError "reflectlite.Value.Type" 0) (fun t _ _ _ => ReflectliteType.toType t) #[.agg #[.pointer (some ⟨9, 112, none⟩), .pointer (some a), .int .u64 150]]).run Tryz.prog w
    = .ok (.iface 146 (.agg #[.pointer (some ⟨9, 112, none⟩)])) w := by kernel_rfl
theorem kindPP (w : World) : ((ReflectliteType.abiMethod fun t => (fun a : Nat => Value.int IntKind.u8 (a : Int)) <$> Rtype.kind t) #[.pointer (some ⟨9, 112, none⟩)]).run Tryz.prog w = .ok (.int .u8 22) w := by kernel_rfl
theorem kindP (w : World) : ((ReflectliteType.abiMethod fun t => (fun a : Nat => Value.int IntKind.u8 (a : Int)) <$> Rtype.kind t) #[.pointer (some ⟨9, 111, none⟩)]).run Tryz.prog w = .ok (.int .u8 22) w := by kernel_rfl
theorem partsP (a : Addr) (w : World) : (ReflectliteValue.parts (.agg #[.pointer (some ⟨9, 112, none⟩), .pointer (some a), .int .u64 150])).run Tryz.prog w = .ok (some (112, a, 150)) w := by kernel_rfl
theorem isNilP (a p : Addr) (W : World) (ha : W.cell? a = some (.pointer (some p))) :
    (ReflectliteValue.method (ReflectliteValue.valueError "reflectlite.Value.IsNil" 0) ReflectliteValue.isNil #[.agg #[.pointer (some ⟨9, 112, none⟩), .pointer (some a), .int .u64 150]]).run Tryz.prog W = .ok (.bool false) W := by
  rw [rlm]
  simp only [Sem.run_bind, partsP, Result.andThen]
  simp [ReflectliteValue.isNil, loadVar, isAgg, underlying, Tryz.underlying112, ha, Result.andThen]
theorem elemP (w : World) : (ReflectliteType.method ReflectliteType.elem #[.agg #[.pointer (some ⟨9, 112, none⟩)]]).run Tryz.prog w = .ok (.iface 146 (.agg #[.pointer (some ⟨9, 111, none⟩)])) w := by kernel_rfl
theorem implementsP (w : World) : (ReflectliteType.relation "Implements" ReflectliteType.implements_ #[.agg #[.pointer (some ⟨9, 111, none⟩)], .iface 146 (.agg #[.pointer (some ⟨9, 55, none⟩)])]).run Tryz.prog w = .ok (.bool true) w := by kernel_rfl
theorem notAssignableP (w : World) : (ReflectliteType.relation "AssignableTo" ReflectliteType.assignableTo #[.agg #[.pointer (some ⟨9, 27, none⟩)], .iface 146 (.agg #[.pointer (some ⟨9, 111, none⟩)])]).run Tryz.prog w = .ok (.bool false) w := by kernel_rfl
set_option maxHeartbeats 8000000 in
set_option maxRecDepth 100000 in
theorem as_hit (c : Int) (t : Addr) (old : Value) (w : World) (hg : w.cell? ⟨0, 0, none⟩ = some (.iface 146 (.agg #[.pointer (some ⟨9, 55, none⟩)]))) (ht0 : w.cell? t = some old) (hf0 : w.frozen? t = false) :
    Calls Tryz.prog 66 #[.iface 27 (.int .i64 c), .iface 110 (.pointer (some t))] w fun ev w' => ev = .returned (.bool true) ∧ w' = ((((w.alloc (.cells #[.pointer (some t)] 110)).alloc (.cells #[.pointer (some ⟨9, 110, none⟩), .pointer (some ⟨w.heap.size, 0, none⟩), .int .u64 150] 135)).alloc (.cells #[.pointer (some ⟨9, 110, none⟩), .pointer (some ⟨w.heap.size, 0, none⟩), .int .u64 150] 135)).alloc (.cells #[.int .i64 c] 27)).setCell t (.int .i64 c) := by
  have hVO := @run_callFunc_extern Tryz.prog 76 _ (fun args => ReflectliteValue.unpack (args.getD 0 (.tuple #[]))) Tryz.func76 (by kernel_rfl) (by kernel_rfl) (by kernel_rfl) (by kernel_rfl)
  have hTY := @run_callFunc_extern Tryz.prog 77 _ (ReflectliteValue.methodAny (ReflectliteValue.valueError "reflectlite.Value.Type" 0) (fun t _ _ _ => ReflectliteType.toType t)) Tryz.func77 (by kernel_rfl) (by kernel_rfl) (by kernel_rfl) (by kernel_rfl)
  have hIN := @run_callFunc_extern Tryz.prog 78 _ (ReflectliteValue.method (ReflectliteValue.valueError "reflectlite.Value.IsNil" 0) ReflectliteValue.isNil) Tryz.func78 (by kernel_rfl) (by kernel_rfl) (by kernel_rfl) (by kernel_rfl)
  have hKI := @run_callFunc_extern Tryz.prog 154 _ (ReflectliteType.abiMethod fun t => do pure (.int .u8 (← Rtype.kind t))) Tryz.func154 (by kernel_rfl) (by kernel_rfl) (by kernel_rfl) (by kernel_rfl)
  have hEL := @run_callFunc_extern Tryz.prog 170 _ (ReflectliteType.method ReflectliteType.elem) Tryz.func170 (by kernel_rfl) (by kernel_rfl) (by kernel_rfl) (by kernel_rfl)
  have hIM := @run_callFunc_extern Tryz.prog 171 _ (ReflectliteType.relation "Implements" ReflectliteType.implements_) Tryz.func171 (by kernel_rfl) (by kernel_rfl) (by kernel_rfl) (by kernel_rfl)
  have hTO := @run_callFunc_extern Tryz.prog 73 _ ReflectliteType.typeOf Tryz.func73 (by kernel_rfl) (by kernel_rfl) (by kernel_rfl) (by kernel_rfl)
  have hAT := @run_callFunc_extern Tryz.prog 168 _ (ReflectliteType.relation "AssignableTo" ReflectliteType.assignableTo) Tryz.func168 (by kernel_rfl) (by kernel_rfl) (by kernel_rfl) (by kernel_rfl)
  have mK := methodKind
  have mE := methodElem
  have mI := methodImplements
  have mA := methodAssignableTo
  have tO := typeOfE
  have hEV := @run_callFunc_extern Tryz.prog 85 _ (ReflectliteValue.method (ReflectliteValue.valueError "reflectlite.Value.Elem" 0) ReflectliteValue.elem) Tryz.func85 (by kernel_rfl) (by kernel_rfl) (by kernel_rfl) (by kernel_rfl)
  have hSE := @run_callFunc_extern Tryz.prog 86 _ ReflectliteValue.set Tryz.func86 (by kernel_rfl) (by kernel_rfl) (by kernel_rfl) (by kernel_rfl)
  have aS := assignableE
  have vE := valueOfE c
  have fV := valueOfPE
  have fT := typePE
  have k1 := kindPE
  have k2 := kindE
  have eL := elemPE
  have iM := implementsE
  have n8 := isNilPE ⟨w.heap.size, 0, none⟩ t ((w.alloc (.cells #[.pointer (some t)] 110)).alloc (.cells #[.pointer (some ⟨9, 110, none⟩), .pointer (some ⟨w.heap.size, 0, none⟩), .int .u64 150] 135)) (by simp)
  have hlt : 0 < w.heap.size := by
    rcases Nat.lt_or_ge 0 w.heap.size with h | h
    · exact h
    · simp [World.cell?, Array.getElem?_eq_none h] at hg
  have hg2 : ((w.alloc (.cells #[.pointer (some t)] 110)).alloc (.cells #[.pointer (some ⟨9, 110, none⟩), .pointer (some ⟨w.heap.size, 0, none⟩), .int .u64 150] 135)).cell? ⟨0, 0, none⟩ = some (.iface 146 (.agg #[.pointer (some ⟨9, 55, none⟩)])) := by
    rw [World.cell?_alloc_lt _ _ ⟨0, 0, none⟩ (by first | (simp; done) | (simp; omega)), World.cell?_alloc_lt _ _ ⟨0, 0, none⟩ hlt]; exact hg
  have htl : t.block < w.heap.size := by
    rcases Nat.lt_or_ge t.block w.heap.size with h | h
    · exact h
    · simp [World.cell?, Array.getElem?_eq_none h] at ht0
  have el := elemVPE ⟨w.heap.size, 0, none⟩ t (((w.alloc (.cells #[.pointer (some t)] 110)).alloc (.cells #[.pointer (some ⟨9, 110, none⟩), .pointer (some ⟨w.heap.size, 0, none⟩), .int .u64 150] 135)).alloc (.cells #[.pointer (some ⟨9, 110, none⟩), .pointer (some ⟨w.heap.size, 0, none⟩), .int .u64 150] 135)) (by rw [World.cell?_alloc_lt _ _ ⟨w.heap.size, 0, none⟩ (by simp; omega)]; simp)
  have st := setE t ⟨w.heap.size + 1 + 1 + 1, 0, none⟩ c old ((((w.alloc (.cells #[.pointer (some t)] 110)).alloc (.cells #[.pointer (some ⟨9, 110, none⟩), .pointer (some ⟨w.heap.size, 0, none⟩), .int .u64 150] 135)).alloc (.cells #[.pointer (some ⟨9, 110, none⟩), .pointer (some ⟨w.heap.size, 0, none⟩), .int .u64 150] 135)).alloc (.cells #[.int .i64 c] 27))
    (by rw [World.cell?_alloc_at _ _ _ _ (by simp)]; rfl)
    (by rw [World.cell?_alloc_lt _ _ t (by simp; omega), World.cell?_alloc_lt _ _ t (by simp; omega), World.cell?_alloc_lt _ _ t (by simp; omega), World.cell?_alloc_lt _ _ t htl]; exact ht0)
    (by rw [World.frozen?_alloc_old _ _ t (by simp; omega), World.frozen?_alloc_old _ _ t (by simp; omega), World.frozen?_alloc_old _ _ t (by simp; omega), World.frozen?_alloc_old _ _ t (Nat.ne_of_lt htl)]; exact hf0)
  go_enter Tryz.func66, Tryz.ntmps66
  go_wp2
  refine wp_loop_rounds 1 ?_
  rw [rounds_succ]
  go_wp2
  go_ret
  exact ⟨rfl, rfl⟩
end Go.Proofs.YtofdpgcnconibaaGreatDoor.ErrAs
/-! errors.As: an error number is no record's, no part's. -/
namespace Go.Proofs.YtofdpgcnconibaaGreatDoor.ErrAs
open Go.RowKit Go.Extern.Stop Go.Stop Go.Extern
theorem noAs (v : Value) (xT : TypeId) (w : World) : (Instr.typeAssert (.iface 27 v) xT 159 true).run Tryz.prog w = .ok (.tuple #[.nilIface, .bool false]) w := run_typeAssert_lacksB Tryz.underlying159 (by kernel_rfl) (by kernel_rfl) v xT w
theorem noUn (v : Value) (xT : TypeId) (w : World) : (Instr.typeAssert (.iface 27 v) xT 151 true).run Tryz.prog w = .ok (.tuple #[.nilIface, .bool false]) w := run_typeAssert_lacksB Tryz.underlying151 (by kernel_rfl) (by kernel_rfl) v xT w
theorem noUs (v : Value) (xT : TypeId) (w : World) : (Instr.typeAssert (.iface 27 v) xT 153 true).run Tryz.prog w = .ok (.tuple #[.nilIface, .bool false]) w := run_typeAssert_lacksB Tryz.underlying153 (by kernel_rfl) (by kernel_rfl) v xT w
set_option maxHeartbeats 8000000 in
set_option maxRecDepth 100000 in
theorem as_missR (c : Int) (t : Addr) (w : World) (hg : w.cell? ⟨0, 0, none⟩ = some (.iface 146 (.agg #[.pointer (some ⟨9, 55, none⟩)]))) :
    Calls Tryz.prog 66 #[.iface 27 (.int .i64 c), .iface 116 (.pointer (some t))] w fun ev w' => ev = .returned (.bool false) ∧ w' = (((w.alloc (.cells #[.pointer (some t)] 116)).alloc (.cells #[.pointer (some ⟨9, 116, none⟩), .pointer (some ⟨w.heap.size, 0, none⟩), .int .u64 150] 135)).alloc (.cells #[.pointer (some ⟨9, 116, none⟩), .pointer (some ⟨w.heap.size, 0, none⟩), .int .u64 150] 135)) := by
  have hVO := @run_callFunc_extern Tryz.prog 76 _ (fun args => ReflectliteValue.unpack (args.getD 0 (.tuple #[]))) Tryz.func76 (by kernel_rfl) (by kernel_rfl) (by kernel_rfl) (by kernel_rfl)
  have hTY := @run_callFunc_extern Tryz.prog 77 _ (ReflectliteValue.methodAny (ReflectliteValue.valueError "reflectlite.Value.Type" 0) (fun t _ _ _ => ReflectliteType.toType t)) Tryz.func77 (by kernel_rfl) (by kernel_rfl) (by kernel_rfl) (by kernel_rfl)
  have hIN := @run_callFunc_extern Tryz.prog 78 _ (ReflectliteValue.method (ReflectliteValue.valueError "reflectlite.Value.IsNil" 0) ReflectliteValue.isNil) Tryz.func78 (by kernel_rfl) (by kernel_rfl) (by kernel_rfl) (by kernel_rfl)
  have hKI := @run_callFunc_extern Tryz.prog 154 _ (ReflectliteType.abiMethod fun t => do pure (.int .u8 (← Rtype.kind t))) Tryz.func154 (by kernel_rfl) (by kernel_rfl) (by kernel_rfl) (by kernel_rfl)
  have hEL := @run_callFunc_extern Tryz.prog 170 _ (ReflectliteType.method ReflectliteType.elem) Tryz.func170 (by kernel_rfl) (by kernel_rfl) (by kernel_rfl) (by kernel_rfl)
  have hIM := @run_callFunc_extern Tryz.prog 171 _ (ReflectliteType.relation "Implements" ReflectliteType.implements_) Tryz.func171 (by kernel_rfl) (by kernel_rfl) (by kernel_rfl) (by kernel_rfl)
  have hTO := @run_callFunc_extern Tryz.prog 73 _ ReflectliteType.typeOf Tryz.func73 (by kernel_rfl) (by kernel_rfl) (by kernel_rfl) (by kernel_rfl)
  have hAT := @run_callFunc_extern Tryz.prog 168 _ (ReflectliteType.relation "AssignableTo" ReflectliteType.assignableTo) Tryz.func168 (by kernel_rfl) (by kernel_rfl) (by kernel_rfl) (by kernel_rfl)
  have mK := methodKind
  have mE := methodElem
  have mI := methodImplements
  have mA := methodAssignableTo
  have tO := typeOfE
  have a1 := noAs
  have a2 := noUn
  have a3 := noUs
  have aS := notAssignableR
  have fV := valueOfR
  have fT := typeR
  have k1 := kindPR
  have k2 := kindR
  have eL := elemR
  have iM := implementsR
  have n8 := isNilR ⟨w.heap.size, 0, none⟩ t ((w.alloc (.cells #[.pointer (some t)] 116)).alloc (.cells #[.pointer (some ⟨9, 116, none⟩), .pointer (some ⟨w.heap.size, 0, none⟩), .int .u64 150] 135)) (by simp)
  have hlt : 0 < w.heap.size := by
    rcases Nat.lt_or_ge 0 w.heap.size with h | h
    · exact h
    · simp [World.cell?, Array.getElem?_eq_none h] at hg
  have hg2 : ((w.alloc (.cells #[.pointer (some t)] 116)).alloc (.cells #[.pointer (some ⟨9, 116, none⟩), .pointer (some ⟨w.heap.size, 0, none⟩), .int .u64 150] 135)).cell? ⟨0, 0, none⟩ = some (.iface 146 (.agg #[.pointer (some ⟨9, 55, none⟩)])) := by
    rw [World.cell?_alloc_lt _ _ ⟨0, 0, none⟩ (by first | (simp; done) | (simp; omega)), World.cell?_alloc_lt _ _ ⟨0, 0, none⟩ hlt]; exact hg
  go_enter Tryz.func66, Tryz.ntmps66
  go_wp2
  refine wp_loop_rounds 1 ?_
  rw [rounds_succ]
  go_wp2
  go_ret
  exact ⟨rfl, rfl⟩
set_option maxHeartbeats 8000000 in
set_option maxRecDepth 100000 in
theorem as_missP (c : Int) (t : Addr) (w : World) (hg : w.cell? ⟨0, 0, none⟩ = some (.iface 146 (.agg #[.pointer (some ⟨9, 55, none⟩)]))) :
    Calls Tryz.prog 66 #[.iface 27 (.int .i64 c), .iface 112 (.pointer (some t))] w fun ev w' => ev = .returned (.bool false) ∧ w' = (((w.alloc (.cells #[.pointer (some t)] 112)).alloc (.cells #[.pointer (some ⟨9, 112, none⟩), .pointer (some ⟨w.heap.size, 0, none⟩), .int .u64 150] 135)).alloc (.cells #[.pointer (some ⟨9, 112, none⟩), .pointer (some ⟨w.heap.size, 0, none⟩), .int .u64 150] 135)) := by
  have hVO := @run_callFunc_extern Tryz.prog 76 _ (fun args => ReflectliteValue.unpack (args.getD 0 (.tuple #[]))) Tryz.func76 (by kernel_rfl) (by kernel_rfl) (by kernel_rfl) (by kernel_rfl)
  have hTY := @run_callFunc_extern Tryz.prog 77 _ (ReflectliteValue.methodAny (ReflectliteValue.valueError "reflectlite.Value.Type" 0) (fun t _ _ _ => ReflectliteType.toType t)) Tryz.func77 (by kernel_rfl) (by kernel_rfl) (by kernel_rfl) (by kernel_rfl)
  have hIN := @run_callFunc_extern Tryz.prog 78 _ (ReflectliteValue.method (ReflectliteValue.valueError "reflectlite.Value.IsNil" 0) ReflectliteValue.isNil) Tryz.func78 (by kernel_rfl) (by kernel_rfl) (by kernel_rfl) (by kernel_rfl)
  have hKI := @run_callFunc_extern Tryz.prog 154 _ (ReflectliteType.abiMethod fun t => do pure (.int .u8 (← Rtype.kind t))) Tryz.func154 (by kernel_rfl) (by kernel_rfl) (by kernel_rfl) (by kernel_rfl)
  have hEL := @run_callFunc_extern Tryz.prog 170 _ (ReflectliteType.method ReflectliteType.elem) Tryz.func170 (by kernel_rfl) (by kernel_rfl) (by kernel_rfl) (by kernel_rfl)
  have hIM := @run_callFunc_extern Tryz.prog 171 _ (ReflectliteType.relation "Implements" ReflectliteType.implements_) Tryz.func171 (by kernel_rfl) (by kernel_rfl) (by kernel_rfl) (by kernel_rfl)
  have hTO := @run_callFunc_extern Tryz.prog 73 _ ReflectliteType.typeOf Tryz.func73 (by kernel_rfl) (by kernel_rfl) (by kernel_rfl) (by kernel_rfl)
  have hAT := @run_callFunc_extern Tryz.prog 168 _ (ReflectliteType.relation "AssignableTo" ReflectliteType.assignableTo) Tryz.func168 (by kernel_rfl) (by kernel_rfl) (by kernel_rfl) (by kernel_rfl)
  have mK := methodKind
  have mE := methodElem
  have mI := methodImplements
  have mA := methodAssignableTo
  have tO := typeOfE
  have a1 := noAs
  have a2 := noUn
  have a3 := noUs
  have aS := notAssignableP
  have fV := valueOfP
  have fT := typeP
  have k1 := kindPP
  have k2 := kindP
  have eL := elemP
  have iM := implementsP
  have n8 := isNilP ⟨w.heap.size, 0, none⟩ t ((w.alloc (.cells #[.pointer (some t)] 112)).alloc (.cells #[.pointer (some ⟨9, 112, none⟩), .pointer (some ⟨w.heap.size, 0, none⟩), .int .u64 150] 135)) (by simp)
  have hlt : 0 < w.heap.size := by
    rcases Nat.lt_or_ge 0 w.heap.size with h | h
    · exact h
    · simp [World.cell?, Array.getElem?_eq_none h] at hg
  have hg2 : ((w.alloc (.cells #[.pointer (some t)] 112)).alloc (.cells #[.pointer (some ⟨9, 112, none⟩), .pointer (some ⟨w.heap.size, 0, none⟩), .int .u64 150] 135)).cell? ⟨0, 0, none⟩ = some (.iface 146 (.agg #[.pointer (some ⟨9, 55, none⟩)])) := by
    rw [World.cell?_alloc_lt _ _ ⟨0, 0, none⟩ (by first | (simp; done) | (simp; omega)), World.cell?_alloc_lt _ _ ⟨0, 0, none⟩ hlt]; exact hg
  go_enter Tryz.func66, Tryz.ntmps66
  go_wp2
  refine wp_loop_rounds 1 ?_
  rw [rounds_succ]
  go_wp2
  go_ret
  exact ⟨rfl, rfl⟩
end Go.Proofs.YtofdpgcnconibaaGreatDoor.ErrAs
/-! errors.Is at this program's targets: an error number; nil. -/
namespace Go.Proofs.YtofdpgcnconibaaGreatDoor.ErrIs
open Go.RowKit Go.Extern.Stop Go.Stop Go.Extern Go.Proofs.YtofdpgcnconibaaGreatDoor.ErrAs
set_option maxRecDepth 100000 in
set_option maxHeartbeats 1000000 in
theorem is_nil (c : Int) (w : World) : Calls Tryz.prog 62 #[.nilIface, .iface 27 (.int .i64 c)] w fun e w' => e = .returned (.bool false) ∧ w' = w := by
  have e0 := run_eql_iface_nil_left (P := Tryz.prog) (w := w) 27 (.int .i64 c) Tryz.underlying55
  go_enter Tryz.func62, Tryz.ntmps62
  go_wp2
  go_ret
  exact ⟨rfl, rfl⟩
theorem comparableE (w : World) : (callFunc 169 #[.agg #[.pointer (some ⟨9, 27, none⟩)]]).run Tryz.prog w = .ok (.value (.bool true)) w := by kernel_rfl
theorem typeOfE2 (c : Int) (w : World) : (callFunc 73 #[.iface 27 (.int .i64 c)]).run Tryz.prog w = .ok (.value (.iface 146 (.agg #[.pointer (some ⟨9, 27, none⟩)]))) w := by kernel_rfl
theorem methodComparable (h : Value) (w : World) : (Go.method 343 146 (.agg #[h]) "Comparable").run Tryz.prog w = .ok (169, .agg #[h]) w := by kernel_rfl
set_option maxRecDepth 100000 in
set_option maxHeartbeats 1000000 in
theorem is_hit (c : Int) (w : World) : Calls Tryz.prog 62 #[.iface 27 (.int .i64 c), .iface 27 (.int .i64 c)] w fun e w' => e = .returned (.bool true) ∧ w' = w := by
  have t0 := typeOfE2 c
  have t1 := methodComparable
  have t2 := comparableE
  have t3 : ∀ w : World, (Go.binOp .eql 55 (.iface 27 (.int .i64 c)) (.iface 27 (.int .i64 c))).run Tryz.prog w = .ok (.bool true) w := by
    intro w
    obtain ⟨i0, hi0, hc0⟩ : ∃ i, Tryz.prog.info? 27 = some i ∧ i.comparable = true := ⟨_, rfl, by kernel_rfl⟩
    have h : ∀ d : Nat, (Op.equalIn (d + 2) 55 (.iface 27 (.int .i64 c)) (.iface 27 (.int .i64 c))).run Tryz.prog w = .ok true w := fun d => by
      simp [Op.equalIn, run_underlying Tryz.underlying55, run_underlying Tryz.underlying27, typeInfo, hi0, hc0]
    simp only [Go.binOp]
    simp [Op.equal, Op.maxDepth, h 9998]
  go_enter Tryz.func62, Tryz.ntmps62
  go_wp2
  refine wp_loop_rounds 1 ?_
  rw [rounds_succ]
  go_wp2
  go_ret
  exact ⟨rfl, rfl⟩
end Go.Proofs.YtofdpgcnconibaaGreatDoor.ErrIs
/-! errors.As at a record's error. -/
namespace Go.Proofs.YtofdpgcnconibaaGreatDoor.ErrAs
open Go.RowKit Go.Extern.Stop Go.Stop Go.Extern
/-! values of *api.RecordError -/
theorem typeOfRv (v : Value) (w : World) : (ReflectliteType.typeOf #[.iface 115 v]).run Tryz.prog w = .ok (.iface 146 (.agg #[.pointer (some ⟨9, 115, none⟩)])) w := by kernel_rfl
theorem asgRE (w : World) : (ReflectliteType.relation "AssignableTo" ReflectliteType.assignableTo #[.agg #[.pointer (some ⟨9, 115, none⟩)], .iface 146 (.agg #[.pointer (some ⟨9, 27, none⟩)])]).run Tryz.prog w = .ok (.bool false) w := by kernel_rfl
theorem asgRR (w : World) : (ReflectliteType.relation "AssignableTo" ReflectliteType.assignableTo #[.agg #[.pointer (some ⟨9, 115, none⟩)], .iface 146 (.agg #[.pointer (some ⟨9, 115, none⟩)])]).run Tryz.prog w = .ok (.bool true) w := by kernel_rfl
theorem asgRP (w : World) : (ReflectliteType.relation "AssignableTo" ReflectliteType.assignableTo #[.agg #[.pointer (some ⟨9, 115, none⟩)], .iface 146 (.agg #[.pointer (some ⟨9, 111, none⟩)])]).run Tryz.prog w = .ok (.bool false) w := by kernel_rfl
theorem noAsR (v : Value) (xT : TypeId) (w : World) : (Instr.typeAssert (.iface 115 v) xT 159 true).run Tryz.prog w = .ok (.tuple #[.nilIface, .bool false]) w := run_typeAssert_lacksB Tryz.underlying159 (by kernel_rfl) (by kernel_rfl) v xT w
theorem hasUnR (v : Value) (xT : TypeId) (w : World) : (Instr.typeAssert (.iface 115 v) xT 151 true).run Tryz.prog w = .ok (.tuple #[.iface 115 v, .bool true]) w := run_typeAssert_hasB Tryz.underlying151 (by kernel_rfl) v xT w
theorem methodUnR (a : Addr) (w : World) : (Go.method 343 115 (.pointer (some a)) "Unwrap").run Tryz.prog w = .ok (163, .pointer (some a)) w := by kernel_rfl
theorem nilUnR (a : Addr) (w : World) : (Go.nilAhead 343 115 (.pointer (some a)) "Unwrap").run Tryz.prog w = .ok (some false) w := by kernel_rfl
theorem unwrapR (g : Nat) (x : Value) (w : World) (hx : w.cell? ⟨g, 1, none⟩ = some x) : Calls Tryz.prog 163 #[.pointer (some ⟨g, 0, none⟩)] w fun e w' => e = .returned x ∧ w' = w := by
  go_enter Tryz.func163, Tryz.ntmps163
  go_wp2
  go_ret
  exact ⟨rfl, rfl⟩
theorem valueOfRv (p : Addr) (w : World) : (ReflectliteValue.unpack (.iface 115 (.pointer (some p)))).run Tryz.prog w
    = .ok (.agg #[.pointer (some ⟨9, 115, none⟩), .pointer (some ⟨w.heap.size, 0, none⟩), .int .u64 150]) (w.alloc (.cells #[.pointer (some p)] 115)) := by kernel_rfl
theorem elemOfR (w : World) : (Rtype.elem? 116).run Tryz.prog w = .ok (some 115) w := by kernel_rfl
theorem mkR (p : Addr) (w : World) : (ReflectliteValue.mk 115 p ReflectliteValue.flagAddr).run Tryz.prog w = .ok (.agg #[.pointer (some ⟨9, 115, none⟩), .pointer (some p), .int .u64 406]) w := by kernel_rfl
theorem elemVR (a p : Addr) (W : World) (ha : W.cell? a = some (.pointer (some p))) :
    (ReflectliteValue.method (ReflectliteValue.valueError "reflectlite.Value.Elem" 0) ReflectliteValue.elem #[.agg #[.pointer (some ⟨9, 116, none⟩), .pointer (some a), .int .u64 150]]).run Tryz.prog W
      = .ok (.agg #[.pointer (some ⟨9, 115, none⟩), .pointer (some p), .int .u64 406]) W := by
  rw [rlm]
  simp only [Sem.run_bind, partsR, Result.andThen]
  simp [ReflectliteValue.elem, loadVar, isAgg, underlying, Tryz.underlying116, ha, Result.andThen, elemOfR, mkR]
theorem partsRa (a : Addr) (w : World) : (ReflectliteValue.parts (.agg #[.pointer (some ⟨9, 115, none⟩), .pointer (some a), .int .u64 406])).run Tryz.prog w = .ok (some (115, a, 406)) w := by kernel_rfl
theorem partsRv (a : Addr) (w : World) : (ReflectliteValue.parts (.agg #[.pointer (some ⟨9, 115, none⟩), .pointer (some a), .int .u64 150])).run Tryz.prog w = .ok (some (115, a, 150)) w := by kernel_rfl
theorem directR (w : World) : (Rtype.directlyAssignable 115 115).run Tryz.prog w = .ok true w := by kernel_rfl
theorem setR (ta b p : Addr) (old : Value) (W : World) (hb : W.cell? b = some (.pointer (some p))) (ht : W.cell? ta = some old) (hf : W.frozen? ta = false) :
    (ReflectliteValue.set #[.agg #[.pointer (some ⟨9, 115, none⟩), .pointer (some ta), .int .u64 406], .agg #[.pointer (some ⟨9, 115, none⟩), .pointer (some b), .int .u64 150]]).run Tryz.prog W
      = .ok (.tuple #[]) (W.setCell ta (.pointer (some p))) := by
  rw [rls]
  simp only [Sem.run_bind, partsRa, partsRv, Result.andThen]
  simp [ReflectliteValue.flagAddr, loadVar, isAgg, underlying, Tryz.underlying115, hb, Result.andThen, directR, storeVar, Value.cells, storeCells, Addr.add]
  rw [run_store Tryz.prog W ta _ _ (by rfl)]
  simp [ht, hf]
set_option maxHeartbeats 8000000 in
set_option maxRecDepth 100000 in
theorem as_E_RE (c : Int) (g0 : Nat) (t : Addr) (old : Value) (w : World) (hg : w.cell? ⟨0, 0, none⟩ = some (.iface 146 (.agg #[.pointer (some ⟨9, 55, none⟩)]))) (hr0 : w.cell? ⟨g0, 1, none⟩ = some (.iface 27 (.int .i64 c))) (ht0 : w.cell? t = some old) (hf0 : w.frozen? t = false) :
    Calls Tryz.prog 66 #[.iface 115 (.pointer (some ⟨g0, 0, none⟩)), .iface 110 (.pointer (some t))] w fun ev w' => ev = .returned (.bool true) ∧ w' = ((((w.alloc (.cells #[.pointer (some t)] 110)).alloc (.cells #[.pointer (some ⟨9, 110, none⟩), .pointer (some ⟨w.heap.size, 0, none⟩), .int .u64 150] 135)).alloc (.cells #[.pointer (some ⟨9, 110, none⟩), .pointer (some ⟨w.heap.size, 0, none⟩), .int .u64 150] 135)).alloc (.cells #[.int .i64 c] 27)).setCell t (.int .i64 c) := by
  have hVO := @run_callFunc_extern Tryz.prog 76 _ (fun args => ReflectliteValue.unpack (args.getD 0 (.tuple #[]))) Tryz.func76 (by kernel_rfl) (by kernel_rfl) (by kernel_rfl) (by kernel_rfl)
  have hTY := @run_callFunc_extern Tryz.prog 77 _ (ReflectliteValue.methodAny (ReflectliteValue.valueError "reflectlite.Value.Type" 0) (fun t _ _ _ => ReflectliteType.toType t)) Tryz.func77 (by kernel_rfl) (by kernel_rfl) (by kernel_rfl) (by kernel_rfl)
  have hIN := @run_callFunc_extern Tryz.prog 78 _ (ReflectliteValue.method (ReflectliteValue.valueError "reflectlite.Value.IsNil" 0) ReflectliteValue.isNil) Tryz.func78 (by kernel_rfl) (by kernel_rfl) (by kernel_rfl) (by kernel_rfl)
  have hKI := @run_callFunc_extern Tryz.prog 154 _ (ReflectliteType.abiMethod fun t => do pure (.int .u8 (← Rtype.kind t))) Tryz.func154 (by kernel_rfl) (by kernel_rfl) (by kernel_rfl) (by kernel_rfl)
  have hEL := @run_callFunc_extern Tryz.prog 170 _ (ReflectliteType.method ReflectliteType.elem) Tryz.func170 (by kernel_rfl) (by kernel_rfl) (by kernel_rfl) (by kernel_rfl)
  have hIM := @run_callFunc_extern Tryz.prog 171 _ (ReflectliteType.relation "Implements" ReflectliteType.implements_) Tryz.func171 (by kernel_rfl) (by kernel_rfl) (by kernel_rfl) (by kernel_rfl)
  have hTO := @run_callFunc_extern Tryz.prog 73 _ ReflectliteType.typeOf Tryz.func73 (by kernel_rfl) (by kernel_rfl) (by kernel_rfl) (by kernel_rfl)
  have hAT := @run_callFunc_extern Tryz.prog 168 _ (ReflectliteType.relation "AssignableTo" ReflectliteType.assignableTo) Tryz.func168 (by kernel_rfl) (by kernel_rfl) (by kernel_rfl) (by kernel_rfl)
  have hEV := @run_callFunc_extern Tryz.prog 85 _ (ReflectliteValue.method (ReflectliteValue.valueError "reflectlite.Value.Elem" 0) ReflectliteValue.elem) Tryz.func85 (by kernel_rfl) (by kernel_rfl) (by kernel_rfl) (by kernel_rfl)
  have hSE := @run_callFunc_extern Tryz.prog 86 _ ReflectliteValue.set Tryz.func86 (by kernel_rfl) (by kernel_rfl) (by kernel_rfl) (by kernel_rfl)
  have mK := methodKind
  have mE := methodElem
  have mI := methodImplements
  have mA := methodAssignableTo
  have tOR := typeOfRv
  have aSR := asgRE
  have a1R := noAsR
  have a2R := hasUnR
  have mUR := methodUnR
  have nUR := nilUnR
  have tOE := typeOfE
  have aSE := assignableE
  have fV := valueOfPE
  have fT := typePE
  have k1 := kindPE
  have k2 := kindE
  have eL := elemPE
  have iM := implementsE
  have n8 := isNilPE ⟨w.heap.size, 0, none⟩ t ((w.alloc (.cells #[.pointer (some t)] 110)).alloc (.cells #[.pointer (some ⟨9, 110, none⟩), .pointer (some ⟨w.heap.size, 0, none⟩), .int .u64 150] 135)) (by simp)
  have hlt : 0 < w.heap.size := by
    rcases Nat.lt_or_ge 0 w.heap.size with h | h
    · exact h
    · simp [World.cell?, Array.getElem?_eq_none h] at hg
  have hg2 : ((w.alloc (.cells #[.pointer (some t)] 110)).alloc (.cells #[.pointer (some ⟨9, 110, none⟩), .pointer (some ⟨w.heap.size, 0, none⟩), .int .u64 150] 135)).cell? ⟨0, 0, none⟩ = some (.iface 146 (.agg #[.pointer (some ⟨9, 55, none⟩)])) := by
    rw [World.cell?_alloc_lt _ _ ⟨0, 0, none⟩ (by first | (simp; done) | (simp; omega)), World.cell?_alloc_lt _ _ ⟨0, 0, none⟩ hlt]; exact hg
  have hlr0 : g0 < w.heap.size := by
    rcases Nat.lt_or_ge g0 w.heap.size with h | h
    · exact h
    · simp [World.cell?, Array.getElem?_eq_none h] at hr0
  have hu0 : (((w.alloc (.cells #[.pointer (some t)] 110)).alloc (.cells #[.pointer (some ⟨9, 110, none⟩), .pointer (some ⟨w.heap.size, 0, none⟩), .int .u64 150] 135)).alloc (.cells #[.pointer (some ⟨9, 110, none⟩), .pointer (some ⟨w.heap.size, 0, none⟩), .int .u64 150] 135)).cell? ⟨g0, 1, none⟩ = some (.iface 27 (.int .i64 c)) := by
    rw [World.cell?_alloc_lt _ _ ⟨g0, 1, none⟩ (by first | (simp; done) | (simp; omega)), World.cell?_alloc_lt _ _ ⟨g0, 1, none⟩ (by first | (simp; done) | (simp; omega)), World.cell?_alloc_lt _ _ ⟨g0, 1, none⟩ hlr0]; exact hr0
  have htl : t.block < w.heap.size := by
    rcases Nat.lt_or_ge t.block w.heap.size with h | h
    · exact h
    · simp [World.cell?, Array.getElem?_eq_none h] at ht0
  have vE := valueOfE c
  have el := elemVPE ⟨w.heap.size, 0, none⟩ t (((w.alloc (.cells #[.pointer (some t)] 110)).alloc (.cells #[.pointer (some ⟨9, 110, none⟩), .pointer (some ⟨w.heap.size, 0, none⟩), .int .u64 150] 135)).alloc (.cells #[.pointer (some ⟨9, 110, none⟩), .pointer (some ⟨w.heap.size, 0, none⟩), .int .u64 150] 135)) (by rw [World.cell?_alloc_lt _ _ ⟨w.heap.size, 0, none⟩ (by simp; omega)]; simp)
  have st := setE t ⟨w.heap.size + 1 + 1 + 1, 0, none⟩ c old ((((w.alloc (.cells #[.pointer (some t)] 110)).alloc (.cells #[.pointer (some ⟨9, 110, none⟩), .pointer (some ⟨w.heap.size, 0, none⟩), .int .u64 150] 135)).alloc (.cells #[.pointer (some ⟨9, 110, none⟩), .pointer (some ⟨w.heap.size, 0, none⟩), .int .u64 150] 135)).alloc (.cells #[.int .i64 c] 27))
    (by rw [World.cell?_alloc_at _ _ _ _ (by simp)]; rfl)
    (by rw [World.cell?_alloc_lt _ _ t (by simp; omega), World.cell?_alloc_lt _ _ t (by simp; omega), World.cell?_alloc_lt _ _ t (by simp; omega), World.cell?_alloc_lt _ _ t htl]; exact ht0)
    (by rw [World.frozen?_alloc_old _ _ t (by simp; omega), World.frozen?_alloc_old _ _ t (by simp; omega), World.frozen?_alloc_old _ _ t (by simp; omega), World.frozen?_alloc_old _ _ t (Nat.ne_of_lt htl)]; exact hf0)
  clear ht0 hf0
  clear hg hr0
  go_enter Tryz.func66, Tryz.ntmps66
  go_wp2
  refine wp_loop_rounds 2 ?_
  rw [rounds_succ]
  go_wp2_with (go_at_call 163; refine (unwrapR g0 _ _ hu0).mono ?_; rintro e w' ⟨rfl, rfl⟩)
  rw [rounds_succ]
  go_wp2
  go_ret
  exact ⟨rfl, rfl⟩
set_option maxHeartbeats 8000000 in
set_option maxRecDepth 100000 in
theorem as_R_RE (c : Int) (g0 : Nat) (t : Addr) (old : Value) (w : World) (hg : w.cell? ⟨0, 0, none⟩ = some (.iface 146 (.agg #[.pointer (some ⟨9, 55, none⟩)]))) (hr0 : w.cell? ⟨g0, 1, none⟩ = some (.iface 27 (.int .i64 c))) (ht0 : w.cell? t = some old) (hf0 : w.frozen? t = false) :
    Calls Tryz.prog 66 #[.iface 115 (.pointer (some ⟨g0, 0, none⟩)), .iface 116 (.pointer (some t))] w fun ev w' => ev = .returned (.bool true) ∧ w' = ((((w.alloc (.cells #[.pointer (some t)] 116)).alloc (.cells #[.pointer (some ⟨9, 116, none⟩), .pointer (some ⟨w.heap.size, 0, none⟩), .int .u64 150] 135)).alloc (.cells #[.pointer (some ⟨9, 116, none⟩), .pointer (some ⟨w.heap.size, 0, none⟩), .int .u64 150] 135)).alloc (.cells #[.pointer (some ⟨g0, 0, none⟩)] 115)).setCell t (.pointer (some ⟨g0, 0, none⟩)) := by
  have hVO := @run_callFunc_extern Tryz.prog 76 _ (fun args => ReflectliteValue.unpack (args.getD 0 (.tuple #[]))) Tryz.func76 (by kernel_rfl) (by kernel_rfl) (by kernel_rfl) (by kernel_rfl)
  have hTY := @run_callFunc_extern Tryz.prog 77 _ (ReflectliteValue.methodAny (ReflectliteValue.valueError "reflectlite.Value.Type" 0) (fun t _ _ _ => ReflectliteType.toType t)) Tryz.func77 (by kernel_rfl) (by kernel_rfl) (by kernel_rfl) (by kernel_rfl)
  have hIN := @run_callFunc_extern Tryz.prog 78 _ (ReflectliteValue.method (ReflectliteValue.valueError "reflectlite.Value.IsNil" 0) ReflectliteValue.isNil) Tryz.func78 (by kernel_rfl) (by kernel_rfl) (by kernel_rfl) (by kernel_rfl)
  have hKI := @run_callFunc_extern Tryz.prog 154 _ (ReflectliteType.abiMethod fun t => do pure (.int .u8 (← Rtype.kind t))) Tryz.func154 (by kernel_rfl) (by kernel_rfl) (by kernel_rfl) (by kernel_rfl)
  have hEL := @run_callFunc_extern Tryz.prog 170 _ (ReflectliteType.method ReflectliteType.elem) Tryz.func170 (by kernel_rfl) (by kernel_rfl) (by kernel_rfl) (by kernel_rfl)
  have hIM := @run_callFunc_extern Tryz.prog 171 _ (ReflectliteType.relation "Implements" ReflectliteType.implements_) Tryz.func171 (by kernel_rfl) (by kernel_rfl) (by kernel_rfl) (by kernel_rfl)
  have hTO := @run_callFunc_extern Tryz.prog 73 _ ReflectliteType.typeOf Tryz.func73 (by kernel_rfl) (by kernel_rfl) (by kernel_rfl) (by kernel_rfl)
  have hAT := @run_callFunc_extern Tryz.prog 168 _ (ReflectliteType.relation "AssignableTo" ReflectliteType.assignableTo) Tryz.func168 (by kernel_rfl) (by kernel_rfl) (by kernel_rfl) (by kernel_rfl)
  have hEV := @run_callFunc_extern Tryz.prog 85 _ (ReflectliteValue.method (ReflectliteValue.valueError "reflectlite.Value.Elem" 0) ReflectliteValue.elem) Tryz.func85 (by kernel_rfl) (by kernel_rfl) (by kernel_rfl) (by kernel_rfl)
  have hSE := @run_callFunc_extern Tryz.prog 86 _ ReflectliteValue.set Tryz.func86 (by kernel_rfl) (by kernel_rfl) (by kernel_rfl) (by kernel_rfl)
  have mK := methodKind
  have mE := methodElem
  have mI := methodImplements
  have mA := methodAssignableTo
  have tOR := typeOfRv
  have aSR := asgRR
  have fV := valueOfR
  have fT := typeR
  have k1 := kindPR
  have k2 := kindR
  have eL := elemR
  have iM := implementsR
  have n8 := isNilR ⟨w.heap.size, 0, none⟩ t ((w.alloc (.cells #[.pointer (some t)] 116)).alloc (.cells #[.pointer (some ⟨9, 116, none⟩), .pointer (some ⟨w.heap.size, 0, none⟩), .int .u64 150] 135)) (by simp)
  have hlt : 0 < w.heap.size := by
    rcases Nat.lt_or_ge 0 w.heap.size with h | h
    · exact h
    · simp [World.cell?, Array.getElem?_eq_none h] at hg
  have hg2 : ((w.alloc (.cells #[.pointer (some t)] 116)).alloc (.cells #[.pointer (some ⟨9, 116, none⟩), .pointer (some ⟨w.heap.size, 0, none⟩), .int .u64 150] 135)).cell? ⟨0, 0, none⟩ = some (.iface 146 (.agg #[.pointer (some ⟨9, 55, none⟩)])) := by
    rw [World.cell?_alloc_lt _ _ ⟨0, 0, none⟩ (by first | (simp; done) | (simp; omega)), World.cell?_alloc_lt _ _ ⟨0, 0, none⟩ hlt]; exact hg
  have htl : t.block < w.heap.size := by
    rcases Nat.lt_or_ge t.block w.heap.size with h | h
    · exact h
    · simp [World.cell?, Array.getElem?_eq_none h] at ht0
  have vE := valueOfRv
  have el := elemVR ⟨w.heap.size, 0, none⟩ t (((w.alloc (.cells #[.pointer (some t)] 116)).alloc (.cells #[.pointer (some ⟨9, 116, none⟩), .pointer (some ⟨w.heap.size, 0, none⟩), .int .u64 150] 135)).alloc (.cells #[.pointer (some ⟨9, 116, none⟩), .pointer (some ⟨w.heap.size, 0, none⟩), .int .u64 150] 135)) (by rw [World.cell?_alloc_lt _ _ ⟨w.heap.size, 0, none⟩ (by simp; omega)]; simp)
  have st := setR t ⟨w.heap.size + 1 + 1 + 1, 0, none⟩ ⟨g0, 0, none⟩ old ((((w.alloc (.cells #[.pointer (some t)] 116)).alloc (.cells #[.pointer (some ⟨9, 116, none⟩), .pointer (some ⟨w.heap.size, 0, none⟩), .int .u64 150] 135)).alloc (.cells #[.pointer (some ⟨9, 116, none⟩), .pointer (some ⟨w.heap.size, 0, none⟩), .int .u64 150] 135)).alloc (.cells #[.pointer (some ⟨g0, 0, none⟩)] 115))
    (by rw [World.cell?_alloc_at _ _ _ _ (by simp)]; rfl)
    (by rw [World.cell?_alloc_lt _ _ t (by simp; omega), World.cell?_alloc_lt _ _ t (by simp; omega), World.cell?_alloc_lt _ _ t (by simp; omega), World.cell?_alloc_lt _ _ t htl]; exact ht0)
    (by rw [World.frozen?_alloc_old _ _ t (by simp; omega), World.frozen?_alloc_old _ _ t (by simp; omega), World.frozen?_alloc_old _ _ t (by simp; omega), World.frozen?_alloc_old _ _ t (Nat.ne_of_lt htl)]; exact hf0)
  clear ht0 hf0
  clear hg hr0
  go_enter Tryz.func66, Tryz.ntmps66
  go_wp2
  refine wp_loop_rounds 1 ?_
  rw [rounds_succ]
  go_wp2
  go_ret
  exact ⟨rfl, rfl⟩
set_option maxHeartbeats 8000000 in
set_option maxRecDepth 100000 in
theorem as_P_RE (c : Int) (g0 : Nat) (t : Addr) (w : World) (hg : w.cell? ⟨0, 0, none⟩ = some (.iface 146 (.agg #[.pointer (some ⟨9, 55, none⟩)]))) (hr0 : w.cell? ⟨g0, 1, none⟩ = some (.iface 27 (.int .i64 c))) :
    Calls Tryz.prog 66 #[.iface 115 (.pointer (some ⟨g0, 0, none⟩)), .iface 112 (.pointer (some t))] w fun ev w' => ev = .returned (.bool false) ∧ w' = (((w.alloc (.cells #[.pointer (some t)] 112)).alloc (.cells #[.pointer (some ⟨9, 112, none⟩), .pointer (some ⟨w.heap.size, 0, none⟩), .int .u64 150] 135)).alloc (.cells #[.pointer (some ⟨9, 112, none⟩), .pointer (some ⟨w.heap.size, 0, none⟩), .int .u64 150] 135)) := by
  have hVO := @run_callFunc_extern Tryz.prog 76 _ (fun args => ReflectliteValue.unpack (args.getD 0 (.tuple #[]))) Tryz.func76 (by kernel_rfl) (by kernel_rfl) (by kernel_rfl) (by kernel_rfl)
  have hTY := @run_callFunc_extern Tryz.prog 77 _ (ReflectliteValue.methodAny (ReflectliteValue.valueError "reflectlite.Value.Type" 0) (fun t _ _ _ => ReflectliteType.toType t)) Tryz.func77 (by kernel_rfl) (by kernel_rfl) (by kernel_rfl) (by kernel_rfl)
  have hIN := @run_callFunc_extern Tryz.prog 78 _ (ReflectliteValue.method (ReflectliteValue.valueError "reflectlite.Value.IsNil" 0) ReflectliteValue.isNil) Tryz.func78 (by kernel_rfl) (by kernel_rfl) (by kernel_rfl) (by kernel_rfl)
  have hKI := @run_callFunc_extern Tryz.prog 154 _ (ReflectliteType.abiMethod fun t => do pure (.int .u8 (← Rtype.kind t))) Tryz.func154 (by kernel_rfl) (by kernel_rfl) (by kernel_rfl) (by kernel_rfl)
  have hEL := @run_callFunc_extern Tryz.prog 170 _ (ReflectliteType.method ReflectliteType.elem) Tryz.func170 (by kernel_rfl) (by kernel_rfl) (by kernel_rfl) (by kernel_rfl)
  have hIM := @run_callFunc_extern Tryz.prog 171 _ (ReflectliteType.relation "Implements" ReflectliteType.implements_) Tryz.func171 (by kernel_rfl) (by kernel_rfl) (by kernel_rfl) (by kernel_rfl)
  have hTO := @run_callFunc_extern Tryz.prog 73 _ ReflectliteType.typeOf Tryz.func73 (by kernel_rfl) (by kernel_rfl) (by kernel_rfl) (by kernel_rfl)
  have hAT := @run_callFunc_extern Tryz.prog 168 _ (ReflectliteType.relation "AssignableTo" ReflectliteType.assignableTo) Tryz.func168 (by kernel_rfl) (by kernel_rfl) (by kernel_rfl) (by kernel_rfl)
  have mK := methodKind
  have mE := methodElem
  have mI := methodImplements
  have mA := methodAssignableTo
  have tOR := typeOfRv
  have aSR := asgRP
  have a1R := noAsR
  have a2R := hasUnR
  have mUR := methodUnR
  have nUR := nilUnR
  have tOE := typeOfE
  have aSE := notAssignableP
  have a1E := noAs
  have a2E := noUn
  have a3E := noUs
  have fV := valueOfP
  have fT := typeP
  have k1 := kindPP
  have k2 := kindP
  have eL := elemP
  have iM := implementsP
  have n8 := isNilP ⟨w.heap.size, 0, none⟩ t ((w.alloc (.cells #[.pointer (some t)] 112)).alloc (.cells #[.pointer (some ⟨9, 112, none⟩), .pointer (some ⟨w.heap.size, 0, none⟩), .int .u64 150] 135)) (by simp)
  have hlt : 0 < w.heap.size := by
    rcases Nat.lt_or_ge 0 w.heap.size with h | h
    · exact h
    · simp [World.cell?, Array.getElem?_eq_none h] at hg
  have hg2 : ((w.alloc (.cells #[.pointer (some t)] 112)).alloc (.cells #[.pointer (some ⟨9, 112, none⟩), .pointer (some ⟨w.heap.size, 0, none⟩), .int .u64 150] 135)).cell? ⟨0, 0, none⟩ = some (.iface 146 (.agg #[.pointer (some ⟨9, 55, none⟩)])) := by
    rw [World.cell?_alloc_lt _ _ ⟨0, 0, none⟩ (by first | (simp; done) | (simp; omega)), World.cell?_alloc_lt _ _ ⟨0, 0, none⟩ hlt]; exact hg
  have hlr0 : g0 < w.heap.size := by
    rcases Nat.lt_or_ge g0 w.heap.size with h | h
    · exact h
    · simp [World.cell?, Array.getElem?_eq_none h] at hr0
  have hu0 : (((w.alloc (.cells #[.pointer (some t)] 112)).alloc (.cells #[.pointer (some ⟨9, 112, none⟩), .pointer (some ⟨w.heap.size, 0, none⟩), .int .u64 150] 135)).alloc (.cells #[.pointer (some ⟨9, 112, none⟩), .pointer (some ⟨w.heap.size, 0, none⟩), .int .u64 150] 135)).cell? ⟨g0, 1, none⟩ = some (.iface 27 (.int .i64 c)) := by
    rw [World.cell?_alloc_lt _ _ ⟨g0, 1, none⟩ (by first | (simp; done) | (simp; omega)), World.cell?_alloc_lt _ _ ⟨g0, 1, none⟩ (by first | (simp; done) | (simp; omega)), World.cell?_alloc_lt _ _ ⟨g0, 1, none⟩ hlr0]; exact hr0
  clear hg hr0
  go_enter Tryz.func66, Tryz.ntmps66
  go_wp2
  refine wp_loop_rounds 2 ?_
  rw [rounds_succ]
  go_wp2_with (go_at_call 163; refine (unwrapR g0 _ _ hu0).mono ?_; rintro e w' ⟨rfl, rfl⟩)
  rw [rounds_succ]
  go_wp2
  go_ret
  exact ⟨rfl, rfl⟩
end Go.Proofs.YtofdpgcnconibaaGreatDoor.ErrAs
/-! An error of a record: what it is in memory; cmd.at makes it; api.Tell tells it. -/
set_option linter.unusedVariables false
namespace Go.Proofs.YtofdpgcnconibaaGreatDoor.TellR
open Go.RowKit Go.Proofs.YtofdpgcnconibaaGreatDoorW.PrintWords Go.Proofs.YtofdpgcnconibaaGreatDoorW.PrintLast Go.Proofs.YtofdpgcnconibaaGreatDoor.Plain
/-- An error that is nil, or an error number told of a record: (number, record). -/
def ErrR (w : World) (v : Value) : Option (Int × Int) → Prop
  | none => v = .nilIface
  | some (c, i) => ∃ g : Nat, v = .iface 115 (.pointer (some ⟨g, 0, none⟩)) ∧ w.heap[g]? = some (.cells #[.int .i64 i, .iface 27 (.int .i64 c)] 118 (0, 0))
theorem ErrR.below {w w' : World} {v : Value} {r : Option (Int × Int)} (h : ErrR w v r) (hb : Below w.heap.size w w') : ErrR w' v r := by
  cases r with
  | none => exact h
  | some x => obtain ⟨g, hv, hk⟩ := h; exact ⟨g, hv, blk_below hk hb⟩
theorem size_al (w : World) (o : Obj) : (w.alloc o).heap.size = w.heap.size + 1 := Array.size_push ..
theorem type_lt {w : World} (hT : Tabs w) : 0 < w.heap.size := by
  have hg := hT.2.2.2
  rcases Nat.lt_or_ge 0 w.heap.size with h | h
  · exact h
  · simp [World.cell?, Array.getElem?_eq_none h] at hg
theorem type_al {w : World} (hT : Tabs w) (o : Obj) : (w.alloc o).cell? ⟨0, 0, none⟩ = some (.iface 146 (.agg #[.pointer (some ⟨9, 55, none⟩)])) := by
  rw [World.cell?_alloc_lt _ _ ⟨0, 0, none⟩ (type_lt hT)]; exact hT.2.2.2
theorem cell_al {w : World} {g : Nat} {cs : Array Value} {t : TypeId} {n : Nat × Nat} (h : w.heap[g]? = some (.cells cs t n)) (o : Obj) (i : Nat) {v : Value} (hv : w.cell? ⟨g, i, none⟩ = some v) : (w.alloc o).cell? ⟨g, i, none⟩ = some v := by
  rw [World.cell?_alloc_lt _ _ ⟨g, i, none⟩ (blk_lt h)]; exact hv
theorem belowAs (w : World) (o0 o1 o2 o3 : Obj) : Below w.heap.size w ((((w.alloc o0).alloc o1).alloc o2).alloc o3) := (((((Below.refl _ w).alloc (Nat.le_refl _) _).alloc (by simp) _).alloc (by simp; omega) _).alloc (by simp; omega) _)
theorem asE (c i : Int) (g : Nat) (w : World) (hT : Tabs w) (hk : w.heap[g]? = some (.cells #[.int .i64 i, .iface 27 (.int .i64 c)] 118 (0, 0))) :
    Calls Tryz.prog 66 #[.iface 115 (.pointer (some ⟨g, 0, none⟩)), .iface 110 (.pointer (some ⟨w.heap.size, 0, none⟩))] (w.alloc (.cells #[.int .i64 0] 27)) fun e w' =>
      e = .returned (.bool true) ∧ w'.cell? ⟨w.heap.size, 0, none⟩ = some (.int .i64 c) ∧ Below w.heap.size w w' := by
  refine (ErrAs.as_E_RE c g ⟨w.heap.size, 0, none⟩ (.int .i64 0) _ (type_al hT _) (cell_al hk _ 1 ((blk_cell hk 1).trans rfl)) (by simp) (by simp)).mono fun e w' ⟨he, hw⟩ => ⟨he, ?_, ?_⟩
  · subst hw
    refine World.cell?_setCell_same (u := .int .i64 0) _ _ _ ?_
    rw [World.cell?_alloc_lt _ _ ⟨w.heap.size, 0, none⟩ (by simp; omega), World.cell?_alloc_lt _ _ ⟨w.heap.size, 0, none⟩ (by simp; omega), World.cell?_alloc_lt _ _ ⟨w.heap.size, 0, none⟩ (by simp; omega), World.cell?_alloc_lt _ _ ⟨w.heap.size, 0, none⟩ (by simp)]
    simp
  · subst hw
    exact Below.setCell ((belowAs w _ _ _ _).alloc (by simp; omega) _) (Nat.le_refl _) _
theorem asP (c i : Int) (g : Nat) (w : World) (hT : Tabs w) (hk : w.heap[g]? = some (.cells #[.int .i64 i, .iface 27 (.int .i64 c)] 118 (0, 0))) :
    Calls Tryz.prog 66 #[.iface 115 (.pointer (some ⟨g, 0, none⟩)), .iface 112 (.pointer (some ⟨w.heap.size, 0, none⟩))] (w.alloc (.cells #[.pointer none] 111)) fun e w' =>
      e = .returned (.bool false) ∧ Below w.heap.size w w' := by
  refine (ErrAs.as_P_RE c g ⟨w.heap.size, 0, none⟩ _ (type_al hT _) (cell_al hk _ 1 ((blk_cell hk 1).trans rfl))).mono fun e w' ⟨he, hw⟩ => ⟨he, ?_⟩
  subst hw
  exact belowAs w _ _ _ _
theorem asR (c i : Int) (g : Nat) (w : World) (hT : Tabs w) (hk : w.heap[g]? = some (.cells #[.int .i64 i, .iface 27 (.int .i64 c)] 118 (0, 0))) :
    Calls Tryz.prog 66 #[.iface 115 (.pointer (some ⟨g, 0, none⟩)), .iface 116 (.pointer (some ⟨w.heap.size, 0, none⟩))] (w.alloc (.cells #[.pointer none] 115)) fun e w' =>
      e = .returned (.bool true) ∧ w'.cell? ⟨w.heap.size, 0, none⟩ = some (.pointer (some ⟨g, 0, none⟩)) ∧ w'.cell? ⟨g, 0, none⟩ = some (.int .i64 i) ∧ Below w.heap.size w w' := by
  have hB := Below.setCell ((belowAs w (.cells #[.pointer none] 115) (.cells #[.pointer (some ⟨w.heap.size, 0, none⟩)] 116) (.cells #[.pointer (some ⟨9, 116, none⟩), .pointer (some ⟨w.heap.size + 1, 0, none⟩), .int .u64 150] 135) (.cells #[.pointer (some ⟨9, 116, none⟩), .pointer (some ⟨w.heap.size + 1, 0, none⟩), .int .u64 150] 135)).alloc (by simp; omega) (.cells #[.pointer (some ⟨g, 0, none⟩)] 115)) (p := ⟨w.heap.size, 0, none⟩) (Nat.le_refl _) (.pointer (some ⟨g, 0, none⟩))
  refine (ErrAs.as_R_RE c g ⟨w.heap.size, 0, none⟩ (.pointer none) _ (type_al hT _) (cell_al hk _ 1 ((blk_cell hk 1).trans rfl)) (by simp) (by simp)).mono fun e w' ⟨he, hw⟩ => ⟨he, ?_, ?_, ?_⟩
  · subst hw
    refine World.cell?_setCell_same (u := .pointer none) _ _ _ ?_
    rw [World.cell?_alloc_lt _ _ ⟨w.heap.size, 0, none⟩ (by simp; omega), World.cell?_alloc_lt _ _ ⟨w.heap.size, 0, none⟩ (by simp; omega), World.cell?_alloc_lt _ _ ⟨w.heap.size, 0, none⟩ (by simp; omega), World.cell?_alloc_lt _ _ ⟨w.heap.size, 0, none⟩ (by simp)]
    simp
  · subst hw
    simp only [size_al] at hB ⊢
    exact (blk_cell (blk_below hk hB) 0).trans rfl
  · subst hw
    simp only [size_al] at hB ⊢
    exact hB
theorem code (c i : Int) (g : Nat) (w : World) (hT : Tabs w) (hk : w.heap[g]? = some (.cells #[.int .i64 i, .iface 27 (.int .i64 c)] 118 (0, 0))) : Calls Tryz.prog 39 #[.iface 115 (.pointer (some ⟨g, 0, none⟩))] w fun e w' => e = .returned (.int .i64 c) ∧ Below w.heap.size w w' := by
  have h := asE c i g w hT hk
  clear hk
  go_enter Tryz.func39, Tryz.ntmps39
  go_wp2_with (go_at_call 66; refine h.mono ?_; rintro e w' ⟨rfl, hc, hb⟩)
  go_ret
  exact ⟨rfl, hb⟩
theorem where_ (c i : Int) (g : Nat) (w : World) (hT : Tabs w) (hk : w.heap[g]? = some (.cells #[.int .i64 i, .iface 27 (.int .i64 c)] 118 (0, 0))) : Calls Tryz.prog 40 #[.iface 115 (.pointer (some ⟨g, 0, none⟩))] w fun e w' => e = .returned (.int .i64 0) ∧ Below w.heap.size w w' := by
  have h := asP c i g w hT hk
  clear hk
  go_enter Tryz.func40, Tryz.ntmps40
  go_wp2_with (go_at_call 66; refine h.mono ?_; rintro e w' ⟨rfl, hb⟩)
  go_ret
  exact ⟨rfl, hb⟩
theorem record (c i : Int) (g : Nat) (w : World) (hT : Tabs w) (hk : w.heap[g]? = some (.cells #[.int .i64 i, .iface 27 (.int .i64 c)] 118 (0, 0))) : Calls Tryz.prog 41 #[.iface 115 (.pointer (some ⟨g, 0, none⟩))] w fun e w' => e = .returned (.int .i64 i) ∧ Below w.heap.size w w' := by
  have h := asR c i g w hT hk
  clear hk
  go_enter Tryz.func41, Tryz.ntmps41
  go_wp2_with (go_at_call 66; refine h.mono ?_; rintro e w' ⟨rfl, hc, hi, hb⟩)
  go_ret
  exact ⟨rfl, hb⟩
/-- What api.Tell says of it. -/
def toldRec : Option (Int × Int) → Int × Int × Int
  | none => (0, 0, 0)
  | some (c, i) => (c, 0, i)
set_option maxHeartbeats 1000000 in
set_option maxRecDepth 100000 in
theorem tell (v : Value) (r : Option (Int × Int)) (w : World) (hT : Tabs w) (hE : ErrR w v r) :
    Calls Tryz.prog 22 #[v] w fun e w' => e = .returned (.agg #[.int .i64 (toldRec r).1, .int .i64 (toldRec r).2.1, .int .i64 (toldRec r).2.2]) ∧ Below w.heap.size w w' := by
  rcases r with _ | ⟨c, i⟩
  · obtain rfl : v = .nilIface := hE
    go_enter Tryz.func22, Tryz.ntmps22
    go_wp2
    exact bodyPost_ret (v := .agg #[.int .i64 0, .int .i64 0, .int .i64 0]) (by simp [results, Tryz.results22, go_sem]) rfl ⟨rfl, (Below.refl _ w).alloc (Nat.le_refl _) _⟩
  · obtain ⟨g, rfl, hk⟩ := hE
    have hE0 := Aside0.mk hk
    have hw0 := Aside0.mk (show Below w.heap.size w (w.alloc (.cells #[.int .i64 0, .int .i64 0, .int .i64 0] 30)) from (Below.refl _ w).alloc (Nat.le_refl _) _)
    have hk0 := Aside0.mk (show (w.alloc (.cells #[.int .i64 0, .int .i64 0, .int .i64 0] 30)).heap[w.heap.size]? = some (.cells #[.int .i64 0, .int .i64 0, .int .i64 0] 30 (0, 0)) by simpa using heap_alloc_new w _)
    clear hk
    show Calls _ _ _ _ fun e w' => e = .returned (.agg #[.int .i64 c, .int .i64 0, .int .i64 i]) ∧ Below w.heap.size w w'
    go_enter Tryz.func22, Tryz.ntmps22
    go_wp2_with (first
      | (go_at_call 39; refine (code c i g _ (Tabs.on hT hw0.out) (blk_below hE0.out hw0.out)).mono ?_; rintro e w1 ⟨rfl, hb1⟩; have HB1 := Aside0.mk (hw0.out.trans (hb1.mono hw0.out.size)); have hk1 := Aside0.mk ((hb1.block w.heap.size (by simp)).trans hk0.out); clear hb1)
      | (go_at_call 40; refine (where_ c i g _ (Tabs.on hT HB1.out) (blk_below hE0.out HB1.out)).mono ?_; rintro e w2 ⟨rfl, hb2⟩; have HB2 := Aside0.mk (HB1.out.trans (hb2.mono HB1.out.size)); have hk2 := Aside0.mk ((hb2.block w.heap.size ((Array.getElem?_eq_some_iff.1 hk1.out).1)).trans hk1.out); clear hb2)
      | (go_at_call 41; refine (record c i g _ (Tabs.on hT HB2.out) (blk_below hE0.out HB2.out)).mono ?_; rintro e w3 ⟨rfl, hb3⟩; have HB3 := Aside0.mk (HB2.out.trans (hb3.mono HB2.out.size)); have hk3 := (hb3.block w.heap.size ((Array.getElem?_eq_some_iff.1 hk2.out).1)).trans hk2.out; have c0_ := blk_cell hk3 0; have c1_ := blk_cell hk3 1; have c2_ := blk_cell hk3 2; have f0_ := blk_frozen hk3 0; have f1_ := blk_frozen hk3 1; have f2_ := blk_frozen hk3 2; clear hb3 hk3))
    exact bodyPost_ret (v := .agg #[.int .i64 c, .int .i64 0, .int .i64 i]) (by simp [results, Tryz.results22, go_sem, c0_, c1_, c2_]) rfl ⟨rfl, ((HB3.out.setCell (Nat.le_refl _) _).setCell (Nat.le_refl _) _).setCell (Nat.le_refl _) _⟩
set_option maxHeartbeats 1000000 in
set_option maxRecDepth 100000 in
/-- cmd.at, of an error number. -/
theorem at_ (c i : Int) (w : World) (hT : Tabs w) :
    Calls Tryz.prog 63 #[.int .i64 i, .iface 27 (.int .i64 c)] w fun e w' => ∃ v, e = .returned v ∧ ErrR w' v (some (c, i)) ∧ Below w.heap.size w w' := by
  have h : Calls Tryz.prog 66 #[.iface 27 (.int .i64 c), .iface 116 (.pointer (some ⟨w.heap.size, 0, none⟩))] (w.alloc (.cells #[.pointer none] 115)) fun e w' => e = .returned (.bool false) ∧ Below w.heap.size w w' :=
    (ErrAs.as_missR c ⟨w.heap.size, 0, none⟩ _ (type_al hT _)).mono fun e w' ⟨he, hw⟩ => ⟨he, by subst hw; exact belowAs w _ _ _ _⟩
  go_enter Tryz.func63, Tryz.ntmps63
  go_wp2_with (go_at_call 66; refine h.mono ?_; rintro e w' ⟨rfl, hb⟩)
  go_ret
  refine ⟨_, rfl, ⟨_, rfl, heap_alloc_new _ _⟩, hb.trans ?_⟩
  exact (Below.refl _ _).alloc hb.size _
end Go.Proofs.YtofdpgcnconibaaGreatDoor.TellR
