import Derived.Test.YtofdpgcnconibaaGreatDoorRows
import Derived.LaidLaws
import Derived.LaidSub
import Derived.LaidHandle
import Derived.Stop.LaidErr
import Derived.Lib.LaidTab
import Derived.Lib.ItoaNum
import Derived.Lib.ItoaLen
import Derived.Shelf.Strconv.Itoa3
import Derived.Below
/-! What this claim's row lists, as the walks read it: strconv's table of powers of ten, its two errors. -/
namespace Go.Proofs.YtofdpgcnconibaaGreatDoor
open Go.RowKit
/-- The listed variables that are read lie as the text lays them. -/
def Tabs (w : World) : Prop := Lib.TabIs Tryz.prog w "internal/strconv.uint64pow10" .u64 Lib.pow10Tab ∧
  (∃ tp p, w.var? Tryz.prog "strconv.ErrSyntax" = some #[.iface tp p]) ∧ (∃ tp p, w.var? Tryz.prog "strconv.ErrRange" = some #[.iface tp p])
  ∧ w.cell? ⟨0, 0, none⟩ = some (.iface 146 (.agg #[.pointer (some ⟨9, 55, none⟩)]))
theorem Tabs.errs {w : World} (h : Tabs w) : (∃ tp p, w.var? Tryz.prog "strconv.ErrSyntax" = some #[.iface tp p]) ∧ (∃ tp p, w.var? Tryz.prog "strconv.ErrRange" = some #[.iface tp p]) :=
  ⟨h.2.1, h.2.2.1⟩
theorem var_on {w w' : World} {n : String} {c : Array Value} (h : w.var? Tryz.prog n = some c) (hb : Below w.heap.size w w') : w'.var? Tryz.prog n = some c := by
  unfold World.var? at h ⊢
  cases hg : Tryz.prog.globalNamed n with
  | none => rw [hg] at h; cases h
  | some g =>
    rw [hg] at h
    simp only [Option.bind_some] at h ⊢
    have hlt : g < w.heap.size := by
      rcases Nat.lt_or_ge g w.heap.size with h1 | h1
      · exact h1
      · rw [Array.getElem?_eq_none h1] at h; cases h
    rw [hb.block g hlt]
    exact h
theorem cell_on {w w' : World} {a : Addr} {v : Value} (h : w.cell? a = some v) (hb : Below w.heap.size w w') : w'.cell? a = some v := by
  have hlt : a.block < w.heap.size := by
    rcases Nat.lt_or_ge a.block w.heap.size with h1 | h1
    · exact h1
    · unfold World.cell? at h
      rw [Array.getElem?_eq_none h1] at h; cases h
  rw [hb.cell hlt]
  exact h
theorem Tabs.on {w w' : World} (h : Tabs w) (hb : Below w.heap.size w w') : Tabs w' := by
  obtain ⟨h1, ⟨t2, p2, h2⟩, ⟨t3, p3, h3⟩, h4⟩ := h
  exact ⟨var_on h1 hb, ⟨t2, p2, var_on h2 hb⟩, ⟨t3, p3, var_on h3 hb⟩, cell_on h4 hb⟩
/-- The one row of that name. -/
theorem errRow (u : TypeId) (h : Tryz.prog.typeName? 3 u = some "*errors.errorString") : u = 201 := by
  have e : "*" ++ "errors.errorString" = "*errors.errorString" := by decide
  exact typeName_ptr_named (nm := "errors.errorString") (by rw [e]; kernel_rfl) (by kernel_rfl) (by decide) u (by rw [e]; exact h)
/-- The list, but for handles. -/
def plainList : List (String × DataW Unit) := [("math/bits.deBruijn32tab", Rows.laid_math_bits_deBruijn32tab), ("math/bits.deBruijn64tab", Rows.laid_math_bits_deBruijn64tab), ("internal/strconv.uint64pow10", Rows.laid_internal_strconv_uint64pow10), ("unicode/utf8.acceptRanges", Rows.laid_unicode_utf8_acceptRanges), ("strconv.ErrRange", Rows.laid_strconv_ErrRange), ("strconv.ErrSyntax", Rows.laid_strconv_ErrSyntax), ("unicode/utf8.first", Rows.laid_unicode_utf8_first)]
theorem Tabs.of_laid' {W : World} (hL : laidMet Tryz.prog plainList W) : Lib.TabIs Tryz.prog W "internal/strconv.uint64pow10" .u64 Lib.pow10Tab ∧
    (∃ tp p, W.var? Tryz.prog "strconv.ErrSyntax" = some #[.iface tp p]) ∧ (∃ tp p, W.var? Tryz.prog "strconv.ErrRange" = some #[.iface tp p]) := by
  have h3 := hL.tail.tail
  refine ⟨Lib.tabIs_of_head (g := 6) (t := 210) (e := 64) (n := 20) (by kernel_rfl) (by kernel_rfl) Tryz.underlying210 Tryz.underlying64 (by kernel_rfl) (by kernel_rfl) h3, ?_, ?_⟩
  · obtain ⟨a0, s0, hv0, -, -, -⟩ := laid_sentinel (g := 2) h3.tail.tail.tail (by kernel_rfl) (by kernel_rfl) Tryz.underlying55 errRow Tryz.underlying201 Tryz.underlying203 rfl rfl Tryz.underlying9 (by kernel_rfl) (by kernel_rfl)
    exact ⟨_, _, hv0⟩
  · obtain ⟨a0, s0, hv0, -, -, -⟩ := laid_sentinel (g := 3) h3.tail.tail (by kernel_rfl) (by kernel_rfl) Tryz.underlying55 errRow Tryz.underlying201 Tryz.underlying203 rfl rfl Tryz.underlying9 (by kernel_rfl) (by kernel_rfl)
    exact ⟨_, _, hv0⟩
theorem hRt : (Tryz.prog.cutTypes.find? (·.1 == "internal/reflectlite.rtype")).map (·.2) = some 146 := by kernel_rfl
theorem hOneRow : ((List.range 243).filter fun t => Tryz.prog.rowNamed t [101, 114, 114, 111, 114]) = [55] := by kernel_rfl
theorem hSize : Tryz.prog.types.size = 243 := by kernel_rfl
theorem handle_of {W : World} (h : handlesMet Tryz.prog [("errors.errorType", Rows.laid_errors_errorType)] W) : W.cell? ⟨0, 0, none⟩ = some (.iface 146 (.agg #[.pointer (some ⟨9, 55, none⟩)])) := by
  obtain ⟨name, u, ty, e1, e2, e3, e4, e5⟩ := h _ (List.mem_singleton.2 rfl)
  have en : name = [101, 114, 114, 111, 114] := (Option.some.inj e1).symm
  subst en
  obtain rfl := Option.some.inj (hRt.symm.trans e2)
  have hm : ty ∈ (List.range 243).filter fun t => Tryz.prog.rowNamed t [101, 114, 114, 111, 114] := List.mem_filter.2 ⟨List.mem_range.2 (by rw [← hSize]; exact e3), e4⟩
  rw [hOneRow] at hm
  obtain rfl := List.mem_singleton.1 hm
  have hh : typeHandle Tryz.prog 55 = .pointer (some ⟨9, 55, none⟩) := by kernel_rfl
  rw [hh] at e5
  have et : Tryz.prog.globalNamed "errors.errorType" = some 0 := by kernel_rfl
  simpa using World.var?_cell et e5 0
theorem Tabs.of_laid {W : World} (hL : laidMetH Tryz.prog Rows.cmdBackRow.laid W) : Tabs W := by
  have h := laidMetH_iff.1 hL
  have e : (Rows.cmdBackRow.laid.filter fun x => x.2.handleName?.isNone) = plainList := by kernel_rfl
  rw [e] at h
  obtain ⟨h1, h2, h3⟩ := Tabs.of_laid' h.1
  have e2 : (Rows.cmdBackRow.laid.filter fun x => x.2.handleName?.isSome) = [("errors.errorType", Rows.laid_errors_errorType)] := by kernel_rfl
  rw [e2] at h
  exact ⟨h1, h2, h3, handle_of h.2⟩
end Go.Proofs.YtofdpgcnconibaaGreatDoor
