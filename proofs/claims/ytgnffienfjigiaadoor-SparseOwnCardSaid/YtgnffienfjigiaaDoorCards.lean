/-
  DERIVED. GIVEN WITH THE SEED: THE CARDS: each row of YtgnffienfjigiaaDoorRows.lean that lists a variable, with what it lists TIED to the program's text (the seventh form; the later family's looks); each row that meets fmt, with fmt's text TOLD by the authors' own Lean function (tested against real Go, not proved from fmt's source: count such statements apart). THE CARD IS WHAT COUNTS. Prove the row's statement (the work); the ties are given (YtgnffienfjigiaaDoorTie.lean); close each card by the builder's one call (the guide's Derived/Test/ToyasCard.lean, 'card_holds'). Laid BY PROGRAM, IN A SANDBOX (cutbox-door.mjs). By AI agents, Wed Nov 11 2026. No macro, syntax, notation, axiom, sorry.
-/
import Derived.Test.YtgnffienfjigiaaDoorRows
import GoSem.ClaimSeven
namespace Go.Proofs.YtgnffienfjigiaaDoor
namespace Rows

/-- THE TIED CARD OF 'coppicelaw13.SparseWrites'. -/
def sparseWritesCard : Claim7 := { stood := { row := sparseWritesRow, standIns := [], harness := (true, "16e3500739b51b141fbd4bbeded98d22787d6ee255111f5332b91da7d4dc2c22"), looks := false }, kinds := [], alts := [], laidByText := true, laidKinds := [.data, .pinned], laidTests := true, laidLooks := .later }
def SparseWritesCardSaid : Prop := Claim7.holds Tryd.pinned (.plain (OpenSpec.ofChange sparseWritesSpec)) sparseWritesCard

/-- THE TIED CARD OF 'coppicelaw13.SparseRanges'. -/
def sparseRangesCard : Claim7 := { stood := { row := sparseRangesRow, standIns := [], harness := (true, "16e3500739b51b141fbd4bbeded98d22787d6ee255111f5332b91da7d4dc2c22"), looks := false }, kinds := [], alts := [], laidByText := true, laidKinds := [.data, .pinned], laidTests := true, laidLooks := .later }
def SparseRangesCardSaid : Prop := Claim7.holds Tryd.pinned (.plain (OpenSpec.ofChange sparseRangesSpec)) sparseRangesCard

/-- THE TIED CARD OF 'coppicelaw13.SparseOwn'. -/
def sparseOwnCard : Claim7 := { stood := { row := sparseOwnRow, standIns := [], harness := (true, "16e3500739b51b141fbd4bbeded98d22787d6ee255111f5332b91da7d4dc2c22"), looks := false }, kinds := [], alts := [], laidByText := true, laidKinds := [.data, .pinned], laidTests := true, laidLooks := .later }
def SparseOwnCardSaid : Prop := Claim7.holds Tryd.pinned (.plain (OpenSpec.ofChange sparseOwnSpec)) sparseOwnCard

/-- THE TIED CARD OF 'coppicelaw13.SparsePlays'. -/
def sparsePlaysCard : Claim7 := { stood := { row := sparsePlaysRow, standIns := [], harness := (true, "16e3500739b51b141fbd4bbeded98d22787d6ee255111f5332b91da7d4dc2c22"), looks := false }, kinds := [], alts := [], laidByText := true, laidKinds := [.data, .pinned], laidTests := true, laidLooks := .later }
def SparsePlaysCardSaid : Prop := Claim7.holds Tryd.pinned (.plain (OpenSpec.ofChange sparsePlaysSpec)) sparsePlaysCard

/-- THE TIED CARD OF 'coppicelaw13.SparseCuts'. -/
def sparseCutsCard : Claim7 := { stood := { row := sparseCutsRow, standIns := [], harness := (true, "16e3500739b51b141fbd4bbeded98d22787d6ee255111f5332b91da7d4dc2c22"), looks := false }, kinds := [], alts := [], laidByText := true, laidKinds := [.data, .pinned], laidTests := true, laidLooks := .later }
def SparseCutsCardSaid : Prop := Claim7.holds Tryd.pinned (.plain (OpenSpec.ofChange sparseCutsSpec)) sparseCutsCard

/-- THE TIED CARD OF 'coppicelaw13.SparseAsks'. -/
def sparseAsksCard : Claim7 := { stood := { row := sparseAsksRow, standIns := [], harness := (true, "16e3500739b51b141fbd4bbeded98d22787d6ee255111f5332b91da7d4dc2c22"), looks := false }, kinds := [], alts := [], laidByText := true, laidKinds := [.data, .pinned], laidTests := true, laidLooks := .later }
def SparseAsksCardSaid : Prop := Claim7.holds Tryd.pinned (.plain (OpenSpec.ofChange sparseAsksSpec)) sparseAsksCard

/-- THE SECOND FORM's CARD OF 'coppicelaw13.SparseWrites'. -/
def sparseWritesUptoCard : Claim7 := { stood := { row := sparseWritesUptoRow, standIns := [], harness := (true, "16e3500739b51b141fbd4bbeded98d22787d6ee255111f5332b91da7d4dc2c22"), looks := false }, kinds := [], alts := [], laidByText := true, laidKinds := [.data, .pinned], laidTests := true, laidLooks := .later }
def SparseWritesUptoCardSaid : Prop := Claim7.holds Tryd.pinned (.plain (OpenSpec.upto sparseWritesSpec)) sparseWritesUptoCard

/-- THE SECOND FORM's CARD OF 'coppicelaw13.SparseRanges'. -/
def sparseRangesUptoCard : Claim7 := { stood := { row := sparseRangesUptoRow, standIns := [], harness := (true, "16e3500739b51b141fbd4bbeded98d22787d6ee255111f5332b91da7d4dc2c22"), looks := false }, kinds := [], alts := [], laidByText := true, laidKinds := [.data, .pinned], laidTests := true, laidLooks := .later }
def SparseRangesUptoCardSaid : Prop := Claim7.holds Tryd.pinned (.plain (OpenSpec.upto sparseRangesSpec)) sparseRangesUptoCard

/-- THE SECOND FORM's CARD OF 'coppicelaw13.SparseOwn'. -/
def sparseOwnUptoCard : Claim7 := { stood := { row := sparseOwnUptoRow, standIns := [], harness := (true, "16e3500739b51b141fbd4bbeded98d22787d6ee255111f5332b91da7d4dc2c22"), looks := false }, kinds := [], alts := [], laidByText := true, laidKinds := [.data, .pinned], laidTests := true, laidLooks := .later }
def SparseOwnUptoCardSaid : Prop := Claim7.holds Tryd.pinned (.plain (OpenSpec.upto sparseOwnSpec)) sparseOwnUptoCard

/-- THE SECOND FORM's CARD OF 'coppicelaw13.SparsePlays'. -/
def sparsePlaysUptoCard : Claim7 := { stood := { row := sparsePlaysUptoRow, standIns := [], harness := (true, "16e3500739b51b141fbd4bbeded98d22787d6ee255111f5332b91da7d4dc2c22"), looks := false }, kinds := [], alts := [], laidByText := true, laidKinds := [.data, .pinned], laidTests := true, laidLooks := .later }
def SparsePlaysUptoCardSaid : Prop := Claim7.holds Tryd.pinned (.plain (OpenSpec.upto sparsePlaysSpec)) sparsePlaysUptoCard

/-- THE SECOND FORM's CARD OF 'coppicelaw13.SparseCuts'. -/
def sparseCutsUptoCard : Claim7 := { stood := { row := sparseCutsUptoRow, standIns := [], harness := (true, "16e3500739b51b141fbd4bbeded98d22787d6ee255111f5332b91da7d4dc2c22"), looks := false }, kinds := [], alts := [], laidByText := true, laidKinds := [.data, .pinned], laidTests := true, laidLooks := .later }
def SparseCutsUptoCardSaid : Prop := Claim7.holds Tryd.pinned (.plain (OpenSpec.upto sparseCutsSpec)) sparseCutsUptoCard

/-- THE SECOND FORM's CARD OF 'coppicelaw13.SparseAsks'. -/
def sparseAsksUptoCard : Claim7 := { stood := { row := sparseAsksUptoRow, standIns := [], harness := (true, "16e3500739b51b141fbd4bbeded98d22787d6ee255111f5332b91da7d4dc2c22"), looks := false }, kinds := [], alts := [], laidByText := true, laidKinds := [.data, .pinned], laidTests := true, laidLooks := .later }
def SparseAsksUptoCardSaid : Prop := Claim7.holds Tryd.pinned (.plain (OpenSpec.upto sparseAsksSpec)) sparseAsksUptoCard
end Rows
end Go.Proofs.YtgnffienfjigiaaDoor
