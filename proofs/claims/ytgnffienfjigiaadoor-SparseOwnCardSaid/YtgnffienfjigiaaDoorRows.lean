/-
  NARROWER THAN 'FOR EVERY INPUT', by the rows' own cells (each row's printed sentence says how): SparseWrites: laid · SparseRanges: laid · SparseOwn: laid · SparsePlays: laid · SparseCuts: laid · SparseAsks: laid.
  DERIVED. THE GIVEN ROWS OF THIS SEAT. 6 by the template 'for every input the law returns true; each argument reads behind the call as it read before'; 0 by the template 'total and deterministic' (their statements: YtgnffienfjigiaaDoorTotals.lean).
  GIVEN WITH THE SEED: the statements are not yours to turn. If you find one false, say at which input.
  Laid BY PROGRAM, IN A SANDBOX (cutbox-rows.mjs): the forced cells as the released guide's own fill.sh prints them over the translation 2fc8cb2c15be6f01… (all of the seat's roots in one cut). By AI agents, Wed Nov 11 2026. No macro, syntax, notation, axiom, sorry.
-/
import Derived.Test.YtgnffienfjigiaaDoorChecked
import GoSem.PinnedTables
import GoSem.Claim
import GoSem.ClaimJoined
import GoSem.ClaimMapViews
import Derived.JoinedTies
import Derived.KernelRfl
namespace Go.Proofs.YtgnffienfjigiaaDoor
/- THE CELL 'sum', in the pinned program and in every row, IS THE sha256 OF THE DUMP (.gsa) THAT YtgnffienfjigiaaDoorProg.lean LOADS. Nothing in Lean hashes anything: it is a label: what it is worth is what the hold of that sum in a sandbox is worth. -/
noncomputable def Tryd.pinned : Pinned := { name := "ytgnffienfjigiaadoor", sum := "2fc8cb2c15be6f017e49655b23303442d1598283cdd1d75c88aef8689dbee2d3", checked := Tryd.checked }
namespace Rows
def none {H : Type} : Left H := { results := [], args := [] }

/- WHAT THE LISTED PACKAGE-LEVEL VARIABLES READ AS WHEN THE CALL BEGINS. Each datum BY PROGRAM (the guide's laid-datum.mjs) off the statement by which the dump's own 'gosem.cut.vars' lays the variable. In a bare row this is a premise. The card (YtgnffienfjigiaaDoorCards.lean) ties it to the program's text. -/
def laid_unicode_utf8_acceptRanges {H : Type} : DataW H := .agg [.agg [.lit (.int .u8 128), .lit (.int .u8 191)], .agg [.lit (.int .u8 160), .lit (.int .u8 191)], .agg [.lit (.int .u8 128), .lit (.int .u8 159)], .agg [.lit (.int .u8 144), .lit (.int .u8 191)], .agg [.lit (.int .u8 128), .lit (.int .u8 143)], .agg [.lit (.int .u8 0), .lit (.int .u8 0)], .agg [.lit (.int .u8 0), .lit (.int .u8 0)], .agg [.lit (.int .u8 0), .lit (.int .u8 0)], .agg [.lit (.int .u8 0), .lit (.int .u8 0)], .agg [.lit (.int .u8 0), .lit (.int .u8 0)], .agg [.lit (.int .u8 0), .lit (.int .u8 0)], .agg [.lit (.int .u8 0), .lit (.int .u8 0)], .agg [.lit (.int .u8 0), .lit (.int .u8 0)], .agg [.lit (.int .u8 0), .lit (.int .u8 0)], .agg [.lit (.int .u8 0), .lit (.int .u8 0)], .agg [.lit (.int .u8 0), .lit (.int .u8 0)]]
/-- One of Go's own tables, pinned by name: the form's constant. -/
def laid_unicode_utf8_first : DataW Unit := Go.Pinned.utf8First

/-- 'coppicelaw13.SparseWrites': WHATEVER THE INPUT: true; the input reads as it did. -/
def sparseWritesSpec : ChangeSpec := { name := "sparseWrites", fn := fun _ => fun
  | [d1, d2, d3, d4, d5, d6] => { results := [.lit (.bool true)], args := [d1, d2, d3, d4, d5, d6] }
  | _ => none }
def sparseWritesRow : OpenClaim := { program := "ytgnffienfjigiaadoor", sum := "2fc8cb2c15be6f017e49655b23303442d1598283cdd1d75c88aef8689dbee2d3", func := "coppice/coppicelaw13.SparseWrites", spec := "sparseWrites", inPlace := ["internal/bytealg.IndexByteString", "internal/bytealg.IndexString", "slices.overlaps[coppice/api.Piece]"], unfollowed := true, recurses := true, named := ["unicode/utf8.first", "unicode/utf8.acceptRanges", "internal/bytealg.MaxLen"], apart := false, laid := [("unicode/utf8.acceptRanges", laid_unicode_utf8_acceptRanges), ("unicode/utf8.first", laid_unicode_utf8_first)] }
def SparseWritesSaid : Prop := sparseWritesRow.holds Tryd.pinned (OpenSpec.ofChange sparseWritesSpec)

/-- ITS FALSE NEIGHBOUR: 'it returns false'. Refute it at one input. -/
def sparseWritesWrong : ChangeSpec := { name := "sparseWrites", fn := fun _ => fun
  | [d1, d2, d3, d4, d5, d6] => { results := [.lit (.bool false)], args := [d1, d2, d3, d4, d5, d6] }
  | _ => none }
def SparseWritesWrongFalsely : Prop := sparseWritesRow.holds Tryd.pinned (OpenSpec.ofChange sparseWritesWrong)

/-- 'coppicelaw13.SparseRanges': WHATEVER THE INPUT: true; the input reads as it did. -/
def sparseRangesSpec : ChangeSpec := { name := "sparseRanges", fn := fun _ => fun
  | [d1, d2, d3] => { results := [.lit (.bool true)], args := [d1, d2, d3] }
  | _ => none }
def sparseRangesRow : OpenClaim := { program := "ytgnffienfjigiaadoor", sum := "2fc8cb2c15be6f017e49655b23303442d1598283cdd1d75c88aef8689dbee2d3", func := "coppice/coppicelaw13.SparseRanges", spec := "sparseRanges", inPlace := ["internal/bytealg.IndexByteString", "internal/bytealg.IndexString", "slices.overlaps[coppice/api.Piece]"], unfollowed := true, recurses := true, named := ["unicode/utf8.first", "unicode/utf8.acceptRanges", "internal/bytealg.MaxLen"], apart := false, laid := [("unicode/utf8.acceptRanges", laid_unicode_utf8_acceptRanges), ("unicode/utf8.first", laid_unicode_utf8_first)] }
def SparseRangesSaid : Prop := sparseRangesRow.holds Tryd.pinned (OpenSpec.ofChange sparseRangesSpec)

/-- ITS FALSE NEIGHBOUR: 'it returns false'. Refute it at one input. -/
def sparseRangesWrong : ChangeSpec := { name := "sparseRanges", fn := fun _ => fun
  | [d1, d2, d3] => { results := [.lit (.bool false)], args := [d1, d2, d3] }
  | _ => none }
def SparseRangesWrongFalsely : Prop := sparseRangesRow.holds Tryd.pinned (OpenSpec.ofChange sparseRangesWrong)

/-- 'coppicelaw13.SparseOwn': WHATEVER THE INPUT: true; the input reads as it did. -/
def sparseOwnSpec : ChangeSpec := { name := "sparseOwn", fn := fun _ => fun
  | [d1, d2, d3] => { results := [.lit (.bool true)], args := [d1, d2, d3] }
  | _ => none }
def sparseOwnRow : OpenClaim := { program := "ytgnffienfjigiaadoor", sum := "2fc8cb2c15be6f017e49655b23303442d1598283cdd1d75c88aef8689dbee2d3", func := "coppice/coppicelaw13.SparseOwn", spec := "sparseOwn", inPlace := ["internal/bytealg.IndexByteString", "internal/bytealg.IndexString", "slices.overlaps[coppice/api.Piece]"], unfollowed := true, recurses := true, named := ["unicode/utf8.first", "unicode/utf8.acceptRanges", "internal/bytealg.MaxLen"], apart := false, laid := [("unicode/utf8.acceptRanges", laid_unicode_utf8_acceptRanges), ("unicode/utf8.first", laid_unicode_utf8_first)] }
def SparseOwnSaid : Prop := sparseOwnRow.holds Tryd.pinned (OpenSpec.ofChange sparseOwnSpec)

/-- ITS FALSE NEIGHBOUR: 'it returns false'. Refute it at one input. -/
def sparseOwnWrong : ChangeSpec := { name := "sparseOwn", fn := fun _ => fun
  | [d1, d2, d3] => { results := [.lit (.bool false)], args := [d1, d2, d3] }
  | _ => none }
def SparseOwnWrongFalsely : Prop := sparseOwnRow.holds Tryd.pinned (OpenSpec.ofChange sparseOwnWrong)

/-- 'coppicelaw13.SparsePlays': WHATEVER THE INPUT: true; the input reads as it did. -/
def sparsePlaysSpec : ChangeSpec := { name := "sparsePlays", fn := fun _ => fun
  | [d] => { results := [.lit (.bool true)], args := [d] }
  | _ => none }
def sparsePlaysRow : OpenClaim := { program := "ytgnffienfjigiaadoor", sum := "2fc8cb2c15be6f017e49655b23303442d1598283cdd1d75c88aef8689dbee2d3", func := "coppice/coppicelaw13.SparsePlays", spec := "sparsePlays", inPlace := ["internal/bytealg.IndexByteString", "internal/bytealg.IndexString", "slices.overlaps[coppice/api.Piece]"], unfollowed := true, recurses := true, named := ["unicode/utf8.first", "unicode/utf8.acceptRanges", "internal/bytealg.MaxLen"], apart := false, laid := [("unicode/utf8.acceptRanges", laid_unicode_utf8_acceptRanges), ("unicode/utf8.first", laid_unicode_utf8_first)] }
def SparsePlaysSaid : Prop := sparsePlaysRow.holds Tryd.pinned (OpenSpec.ofChange sparsePlaysSpec)

/-- ITS FALSE NEIGHBOUR: 'it returns false'. Refute it at one input. -/
def sparsePlaysWrong : ChangeSpec := { name := "sparsePlays", fn := fun _ => fun
  | [d] => { results := [.lit (.bool false)], args := [d] }
  | _ => none }
def SparsePlaysWrongFalsely : Prop := sparsePlaysRow.holds Tryd.pinned (OpenSpec.ofChange sparsePlaysWrong)

/-- 'coppicelaw13.SparseCuts': WHATEVER THE INPUT: true; the input reads as it did. -/
def sparseCutsSpec : ChangeSpec := { name := "sparseCuts", fn := fun _ => fun
  | [d1, d2, d3, d4, d5] => { results := [.lit (.bool true)], args := [d1, d2, d3, d4, d5] }
  | _ => none }
def sparseCutsRow : OpenClaim := { program := "ytgnffienfjigiaadoor", sum := "2fc8cb2c15be6f017e49655b23303442d1598283cdd1d75c88aef8689dbee2d3", func := "coppice/coppicelaw13.SparseCuts", spec := "sparseCuts", inPlace := ["internal/bytealg.IndexByteString", "internal/bytealg.IndexString", "slices.overlaps[coppice/api.Piece]"], unfollowed := true, recurses := true, named := ["unicode/utf8.first", "unicode/utf8.acceptRanges", "internal/bytealg.MaxLen"], apart := false, laid := [("unicode/utf8.acceptRanges", laid_unicode_utf8_acceptRanges), ("unicode/utf8.first", laid_unicode_utf8_first)] }
def SparseCutsSaid : Prop := sparseCutsRow.holds Tryd.pinned (OpenSpec.ofChange sparseCutsSpec)

/-- ITS FALSE NEIGHBOUR: 'it returns false'. Refute it at one input. -/
def sparseCutsWrong : ChangeSpec := { name := "sparseCuts", fn := fun _ => fun
  | [d1, d2, d3, d4, d5] => { results := [.lit (.bool false)], args := [d1, d2, d3, d4, d5] }
  | _ => none }
def SparseCutsWrongFalsely : Prop := sparseCutsRow.holds Tryd.pinned (OpenSpec.ofChange sparseCutsWrong)

/-- 'coppicelaw13.SparseAsks': WHATEVER THE INPUT: true; the input reads as it did. -/
def sparseAsksSpec : ChangeSpec := { name := "sparseAsks", fn := fun _ => fun
  | [d1, d2, d3] => { results := [.lit (.bool true)], args := [d1, d2, d3] }
  | _ => none }
def sparseAsksRow : OpenClaim := { program := "ytgnffienfjigiaadoor", sum := "2fc8cb2c15be6f017e49655b23303442d1598283cdd1d75c88aef8689dbee2d3", func := "coppice/coppicelaw13.SparseAsks", spec := "sparseAsks", inPlace := ["internal/bytealg.IndexByteString", "internal/bytealg.IndexString", "slices.overlaps[coppice/api.Piece]"], unfollowed := true, recurses := true, named := ["unicode/utf8.first", "unicode/utf8.acceptRanges", "internal/bytealg.MaxLen"], apart := false, laid := [("unicode/utf8.acceptRanges", laid_unicode_utf8_acceptRanges), ("unicode/utf8.first", laid_unicode_utf8_first)] }
def SparseAsksSaid : Prop := sparseAsksRow.holds Tryd.pinned (OpenSpec.ofChange sparseAsksSpec)

/-- ITS FALSE NEIGHBOUR: 'it returns false'. Refute it at one input. -/
def sparseAsksWrong : ChangeSpec := { name := "sparseAsks", fn := fun _ => fun
  | [d1, d2, d3] => { results := [.lit (.bool false)], args := [d1, d2, d3] }
  | _ => none }
def SparseAsksWrongFalsely : Prop := sparseAsksRow.holds Tryd.pinned (OpenSpec.ofChange sparseAsksWrong)

/- THE SECOND FORM. 'bulk': how many values and letters a reading holds, each counted each time it is reached (what is shared counts as often as it is met; a slice's spare places count too). A statement '..UptoSaid' is the law's where the arguments, and the package variables that the reading takes, are together of bulk at most 1048576: NARROWER than '..Said'. Prove '..Said' where nothing that the law and all that it calls make is longer than what came in: it says more and counts as full. Else prove '..UptoSaid'. A law counts once. -/
mutual
def uptoBulk {H : Type} : DataW H → Nat
  | .lit (.string bytes) => bytes.length + 1
  | .lit _ => 1
  | .nil => 1
  | .ptr d => uptoBulk d + 1
  | .slice elems spare => uptoBulkAll elems + uptoBulkAll spare + 1
  | .agg parts => uptoBulkAll parts + 1
  | .iface _ d => uptoBulk d + 1
  | .map entries => uptoBulkEntries entries + 1
  | .held _ => 1
def uptoBulkAll {H : Type} : List (DataW H) → Nat
  | [] => 0
  | d :: r => uptoBulk d + uptoBulkAll r
def uptoBulkEntries {H : Type} : List (Lit × DataW H) → Nat
  | [] => 0
  | x :: r => uptoBulkEntry x + uptoBulkEntries r
def uptoBulkEntry {H : Type} : Lit × DataW H → Nat
  | (.string bytes, d) => bytes.length + uptoBulk d + 1
  | (_, d) => uptoBulk d + 1
 end
def uptoSmall : (H : Type) → List (DataW H) → Bool := fun _ ds => decide (uptoBulkAll ds ≤ 1048576)
def OpenSpec.upto (s : _root_.Go.ChangeSpec) : _root_.Go.OpenSpec := { _root_.Go.OpenSpec.ofChange s with cond := some uptoSmall }

/-- 'coppicelaw13.SparseWrites', WHERE WHAT IT READS IS OF BULK AT MOST 1048576: true; the input reads as it did. -/
def sparseWritesUptoRow : OpenClaim := { program := "ytgnffienfjigiaadoor", sum := "2fc8cb2c15be6f017e49655b23303442d1598283cdd1d75c88aef8689dbee2d3", func := "coppice/coppicelaw13.SparseWrites", spec := "sparseWrites", inPlace := ["internal/bytealg.IndexByteString", "internal/bytealg.IndexString", "slices.overlaps[coppice/api.Piece]"], unfollowed := true, recurses := true, named := ["unicode/utf8.first", "unicode/utf8.acceptRanges", "internal/bytealg.MaxLen"], apart := false, laid := [("unicode/utf8.acceptRanges", laid_unicode_utf8_acceptRanges), ("unicode/utf8.first", laid_unicode_utf8_first)], narrowed := true }
def SparseWritesUptoSaid : Prop := sparseWritesUptoRow.holds Tryd.pinned (OpenSpec.upto sparseWritesSpec)

/-- 'coppicelaw13.SparseRanges', WHERE WHAT IT READS IS OF BULK AT MOST 1048576: true; the input reads as it did. -/
def sparseRangesUptoRow : OpenClaim := { program := "ytgnffienfjigiaadoor", sum := "2fc8cb2c15be6f017e49655b23303442d1598283cdd1d75c88aef8689dbee2d3", func := "coppice/coppicelaw13.SparseRanges", spec := "sparseRanges", inPlace := ["internal/bytealg.IndexByteString", "internal/bytealg.IndexString", "slices.overlaps[coppice/api.Piece]"], unfollowed := true, recurses := true, named := ["unicode/utf8.first", "unicode/utf8.acceptRanges", "internal/bytealg.MaxLen"], apart := false, laid := [("unicode/utf8.acceptRanges", laid_unicode_utf8_acceptRanges), ("unicode/utf8.first", laid_unicode_utf8_first)], narrowed := true }
def SparseRangesUptoSaid : Prop := sparseRangesUptoRow.holds Tryd.pinned (OpenSpec.upto sparseRangesSpec)

/-- 'coppicelaw13.SparseOwn', WHERE WHAT IT READS IS OF BULK AT MOST 1048576: true; the input reads as it did. -/
def sparseOwnUptoRow : OpenClaim := { program := "ytgnffienfjigiaadoor", sum := "2fc8cb2c15be6f017e49655b23303442d1598283cdd1d75c88aef8689dbee2d3", func := "coppice/coppicelaw13.SparseOwn", spec := "sparseOwn", inPlace := ["internal/bytealg.IndexByteString", "internal/bytealg.IndexString", "slices.overlaps[coppice/api.Piece]"], unfollowed := true, recurses := true, named := ["unicode/utf8.first", "unicode/utf8.acceptRanges", "internal/bytealg.MaxLen"], apart := false, laid := [("unicode/utf8.acceptRanges", laid_unicode_utf8_acceptRanges), ("unicode/utf8.first", laid_unicode_utf8_first)], narrowed := true }
def SparseOwnUptoSaid : Prop := sparseOwnUptoRow.holds Tryd.pinned (OpenSpec.upto sparseOwnSpec)

/-- 'coppicelaw13.SparsePlays', WHERE WHAT IT READS IS OF BULK AT MOST 1048576: true; the input reads as it did. -/
def sparsePlaysUptoRow : OpenClaim := { program := "ytgnffienfjigiaadoor", sum := "2fc8cb2c15be6f017e49655b23303442d1598283cdd1d75c88aef8689dbee2d3", func := "coppice/coppicelaw13.SparsePlays", spec := "sparsePlays", inPlace := ["internal/bytealg.IndexByteString", "internal/bytealg.IndexString", "slices.overlaps[coppice/api.Piece]"], unfollowed := true, recurses := true, named := ["unicode/utf8.first", "unicode/utf8.acceptRanges", "internal/bytealg.MaxLen"], apart := false, laid := [("unicode/utf8.acceptRanges", laid_unicode_utf8_acceptRanges), ("unicode/utf8.first", laid_unicode_utf8_first)], narrowed := true }
def SparsePlaysUptoSaid : Prop := sparsePlaysUptoRow.holds Tryd.pinned (OpenSpec.upto sparsePlaysSpec)

/-- 'coppicelaw13.SparseCuts', WHERE WHAT IT READS IS OF BULK AT MOST 1048576: true; the input reads as it did. -/
def sparseCutsUptoRow : OpenClaim := { program := "ytgnffienfjigiaadoor", sum := "2fc8cb2c15be6f017e49655b23303442d1598283cdd1d75c88aef8689dbee2d3", func := "coppice/coppicelaw13.SparseCuts", spec := "sparseCuts", inPlace := ["internal/bytealg.IndexByteString", "internal/bytealg.IndexString", "slices.overlaps[coppice/api.Piece]"], unfollowed := true, recurses := true, named := ["unicode/utf8.first", "unicode/utf8.acceptRanges", "internal/bytealg.MaxLen"], apart := false, laid := [("unicode/utf8.acceptRanges", laid_unicode_utf8_acceptRanges), ("unicode/utf8.first", laid_unicode_utf8_first)], narrowed := true }
def SparseCutsUptoSaid : Prop := sparseCutsUptoRow.holds Tryd.pinned (OpenSpec.upto sparseCutsSpec)

/-- 'coppicelaw13.SparseAsks', WHERE WHAT IT READS IS OF BULK AT MOST 1048576: true; the input reads as it did. -/
def sparseAsksUptoRow : OpenClaim := { program := "ytgnffienfjigiaadoor", sum := "2fc8cb2c15be6f017e49655b23303442d1598283cdd1d75c88aef8689dbee2d3", func := "coppice/coppicelaw13.SparseAsks", spec := "sparseAsks", inPlace := ["internal/bytealg.IndexByteString", "internal/bytealg.IndexString", "slices.overlaps[coppice/api.Piece]"], unfollowed := true, recurses := true, named := ["unicode/utf8.first", "unicode/utf8.acceptRanges", "internal/bytealg.MaxLen"], apart := false, laid := [("unicode/utf8.acceptRanges", laid_unicode_utf8_acceptRanges), ("unicode/utf8.first", laid_unicode_utf8_first)], narrowed := true }
def SparseAsksUptoSaid : Prop := sparseAsksUptoRow.holds Tryd.pinned (OpenSpec.upto sparseAsksSpec)

end Rows
end Go.Proofs.YtgnffienfjigiaaDoor
