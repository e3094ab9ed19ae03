import Derived.Test.YtkfmilfmpmmpkaaDoorRows
import Derived.LaidLaws
import Derived.LaidSub
import Derived.LaidHandle
import Derived.Stop.LaidErr
import Derived.Lib.LaidTab
import Derived.Lib.ItoaNum
import Derived.Lib.ItoaLen
import Derived.Shelf.Strconv.Itoa3
import Derived.Below
/-! What this claim's row lists, as the walks read it: strconv's table of powers of ten, its two errors. -/
namespace Go.Proofs.YtkfmilfmpmmpkaaDoor
open Go.RowKit
/-- The listed variables that are read lie as the text lays them. -/
def Tabs (w : World) : Prop := Lib.TabIs Tryd.prog w "internal/strconv.uint64pow10" .u64 Lib.pow10Tab ∧
  (∃ tp p, w.var? Tryd.prog "strconv.ErrSyntax" = some #[.iface tp p]) ∧ ∃ tp p, w.var? Tryd.prog "strconv.ErrRange" = some #[.iface tp p]
theorem var_on {w w' : World} {n : String} {c : Array Value} (h : w.var? Tryd.prog n = some c) (hb : Below w.heap.size w w') : w'.var? Tryd.prog n = some c := by
  unfold World.var? at h ⊢
  cases hg : Tryd.prog.globalNamed n with
  | none => rw [hg] at h; cases h
  | some g =>
    rw [hg] at h
    simp only [Option.bind_some] at h ⊢
    have hlt : g < w.heap.size := by
      rcases Nat.lt_or_ge g w.heap.size with h1 | h1
      · exact h1
      · rw [Array.getElem?_eq_none h1] at h; cases h
    rw [hb.block g hlt]
    exact h
theorem Tabs.on {w w' : World} (h : Tabs w) (hb : Below w.heap.size w w') : Tabs w' := by
  obtain ⟨h1, ⟨t2, p2, h2⟩, t3, p3, h3⟩ := h
  exact ⟨var_on h1 hb, ⟨t2, p2, var_on h2 hb⟩, t3, p3, var_on h3 hb⟩
/-- The one row of that name. -/
theorem errRow (u : TypeId) (h : Tryd.prog.typeName? 3 u = some "*errors.errorString") : u = 108 := by
  have e : "*" ++ "errors.errorString" = "*errors.errorString" := by decide
  exact typeName_ptr_named (nm := "errors.errorString") (by rw [e]; kernel_rfl) (by kernel_rfl) (by decide) u (by rw [e]; exact h)
theorem Tabs.of_laid' {W : World} (hL : laidMet Tryd.prog Rows.pathOrphansRow.laid W) : Tabs W := by
  have h3 := hL.tail.tail
  refine ⟨Lib.tabIs_of_head (g := 3) (t := 103) (e := 88) (n := 20) (by kernel_rfl) (by kernel_rfl) Tryd.underlying103 Tryd.underlying88 (by kernel_rfl) (by kernel_rfl) h3, ?_, ?_⟩
  · obtain ⟨a0, s0, hv0, -, -, -⟩ := laid_sentinel (g := 1) h3.tail.tail.tail (by kernel_rfl) (by kernel_rfl) Tryd.underlying54 errRow Tryd.underlying108 Tryd.underlying110 rfl rfl Tryd.underlying9 (by kernel_rfl) (by kernel_rfl)
    exact ⟨_, _, hv0⟩
  · obtain ⟨a0, s0, hv0, -, -, -⟩ := laid_sentinel (g := 2) h3.tail.tail (by kernel_rfl) (by kernel_rfl) Tryd.underlying54 errRow Tryd.underlying108 Tryd.underlying110 rfl rfl Tryd.underlying9 (by kernel_rfl) (by kernel_rfl)
    exact ⟨_, _, hv0⟩
theorem Tabs.of_laid {W : World} (hL : laidMetH Tryd.prog Rows.pathOrphansRow.laid W) : Tabs W := Tabs.of_laid' (by
  have h := (laidMetH_iff.1 hL).1
  have e : (Rows.pathOrphansRow.laid.filter fun x => x.2.handleName?.isNone) = Rows.pathOrphansRow.laid := by kernel_rfl
  rw [e] at h
  exact h)
end Go.Proofs.YtkfmilfmpmmpkaaDoor
