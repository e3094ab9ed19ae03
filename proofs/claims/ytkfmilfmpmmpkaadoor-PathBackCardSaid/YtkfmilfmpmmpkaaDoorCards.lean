/-
  DERIVED. GIVEN WITH THE SEED: THE CARDS: each row of YtkfmilfmpmmpkaaDoorRows.lean that lists a variable, with what it lists TIED to the program's text (the seventh form; the later family's looks); each row that meets fmt, with fmt's text TOLD by the authors' own Lean function (tested against real Go, not proved from fmt's source: count such statements apart). THE CARD IS WHAT COUNTS. Prove the row's statement (the work); the ties are given (YtkfmilfmpmmpkaaDoorTie.lean); close each card by the builder's one call (the guide's Derived/Test/ToyasCard.lean, 'card_holds'). Laid BY PROGRAM, IN A SANDBOX (cutbox-door.mjs). By AI agents, Wed Nov 11 2026. No macro, syntax, notation, axiom, sorry.
-/
import Derived.Test.YtkfmilfmpmmpkaaDoorRows
import GoSem.ClaimSeven
namespace Go.Proofs.YtkfmilfmpmmpkaaDoor
namespace Rows

/-- THE TIED CARD OF 'coppicelaw12.PathLeads'. -/
def pathLeadsCard : Claim7 := { stood := { row := pathLeadsRow, standIns := [], harness := (true, "8206dd83b667f53223acb1f93b354a5756e59ef88347c7c6998f39be5e19703e"), looks := true }, kinds := [], alts := [], laidByText := true, laidKinds := [.data, .data, .data, .data, .pinned], laidTests := true, laidLooks := .later }
def PathLeadsCardSaid : Prop := Claim7.holds Tryd.pinned (.plain (OpenSpec.ofChange pathLeadsSpec)) pathLeadsCard

/-- THE TIED CARD OF 'coppicelaw12.PathJoins'. -/
def pathJoinsCard : Claim7 := { stood := { row := pathJoinsRow, standIns := [], harness := (true, "8206dd83b667f53223acb1f93b354a5756e59ef88347c7c6998f39be5e19703e"), looks := true }, kinds := [], alts := [], laidByText := true, laidKinds := [.data, .data, .data, .data, .pinned], laidTests := true, laidLooks := .later }
def PathJoinsCardSaid : Prop := Claim7.holds Tryd.pinned (.plain (OpenSpec.ofChange pathJoinsSpec)) pathJoinsCard

/-- THE TIED CARD OF 'coppicelaw12.PathOrphans'. -/
def pathOrphansCard : Claim7 := { stood := { row := pathOrphansRow, standIns := [], harness := (true, "8206dd83b667f53223acb1f93b354a5756e59ef88347c7c6998f39be5e19703e"), looks := true }, kinds := [], alts := [], laidByText := true, laidKinds := [.data, .data, .data, .data, .sentinel, .sentinel, .pinned], laidTests := true, laidLooks := .later }
def PathOrphansCardSaid : Prop := Claim7.holds Tryd.pinned (.plain (OpenSpec.ofChange pathOrphansSpec)) pathOrphansCard

/-- THE TIED CARD OF 'coppicelaw12.PathSplits'. -/
def pathSplitsCard : Claim7 := { stood := { row := pathSplitsRow, standIns := [], harness := (true, "8206dd83b667f53223acb1f93b354a5756e59ef88347c7c6998f39be5e19703e"), looks := true }, kinds := [], alts := [], laidByText := true, laidKinds := [.data, .data, .data, .data, .sentinel, .sentinel, .pinned], laidTests := true, laidLooks := .later }
def PathSplitsCardSaid : Prop := Claim7.holds Tryd.pinned (.plain (OpenSpec.ofChange pathSplitsSpec)) pathSplitsCard

/-- THE TIED CARD OF 'coppicelaw12.PathBack'. -/
def pathBackCard : Claim7 := { stood := { row := pathBackRow, standIns := [], harness := (true, "8206dd83b667f53223acb1f93b354a5756e59ef88347c7c6998f39be5e19703e"), looks := true }, kinds := [], alts := [], laidByText := true, laidKinds := [.data, .data, .data, .data, .sentinel, .sentinel, .pinned], laidTests := true, laidLooks := .later }
def PathBackCardSaid : Prop := Claim7.holds Tryd.pinned (.plain (OpenSpec.ofChange pathBackSpec)) pathBackCard

/-- THE SECOND FORM's CARD OF 'coppicelaw12.PathLeads'. -/
def pathLeadsUptoCard : Claim7 := { stood := { row := pathLeadsUptoRow, standIns := [], harness := (true, "8206dd83b667f53223acb1f93b354a5756e59ef88347c7c6998f39be5e19703e"), looks := true }, kinds := [], alts := [], laidByText := true, laidKinds := [.data, .data, .data, .data, .pinned], laidTests := true, laidLooks := .later }
def PathLeadsUptoCardSaid : Prop := Claim7.holds Tryd.pinned (.plain (OpenSpec.upto pathLeadsSpec)) pathLeadsUptoCard

/-- THE SECOND FORM's CARD OF 'coppicelaw12.PathJoins'. -/
def pathJoinsUptoCard : Claim7 := { stood := { row := pathJoinsUptoRow, standIns := [], harness := (true, "8206dd83b667f53223acb1f93b354a5756e59ef88347c7c6998f39be5e19703e"), looks := true }, kinds := [], alts := [], laidByText := true, laidKinds := [.data, .data, .data, .data, .pinned], laidTests := true, laidLooks := .later }
def PathJoinsUptoCardSaid : Prop := Claim7.holds Tryd.pinned (.plain (OpenSpec.upto pathJoinsSpec)) pathJoinsUptoCard

/-- THE SECOND FORM's CARD OF 'coppicelaw12.PathOrphans'. -/
def pathOrphansUptoCard : Claim7 := { stood := { row := pathOrphansUptoRow, standIns := [], harness := (true, "8206dd83b667f53223acb1f93b354a5756e59ef88347c7c6998f39be5e19703e"), looks := true }, kinds := [], alts := [], laidByText := true, laidKinds := [.data, .data, .data, .data, .sentinel, .sentinel, .pinned], laidTests := true, laidLooks := .later }
def PathOrphansUptoCardSaid : Prop := Claim7.holds Tryd.pinned (.plain (OpenSpec.upto pathOrphansSpec)) pathOrphansUptoCard

/-- THE SECOND FORM's CARD OF 'coppicelaw12.PathSplits'. -/
def pathSplitsUptoCard : Claim7 := { stood := { row := pathSplitsUptoRow, standIns := [], harness := (true, "8206dd83b667f53223acb1f93b354a5756e59ef88347c7c6998f39be5e19703e"), looks := true }, kinds := [], alts := [], laidByText := true, laidKinds := [.data, .data, .data, .data, .sentinel, .sentinel, .pinned], laidTests := true, laidLooks := .later }
def PathSplitsUptoCardSaid : Prop := Claim7.holds Tryd.pinned (.plain (OpenSpec.upto pathSplitsSpec)) pathSplitsUptoCard

/-- THE SECOND FORM's CARD OF 'coppicelaw12.PathBack'. -/
def pathBackUptoCard : Claim7 := { stood := { row := pathBackUptoRow, standIns := [], harness := (true, "8206dd83b667f53223acb1f93b354a5756e59ef88347c7c6998f39be5e19703e"), looks := true }, kinds := [], alts := [], laidByText := true, laidKinds := [.data, .data, .data, .data, .sentinel, .sentinel, .pinned], laidTests := true, laidLooks := .later }
def PathBackUptoCardSaid : Prop := Claim7.holds Tryd.pinned (.plain (OpenSpec.upto pathBackSpec)) pathBackUptoCard
end Rows
end Go.Proofs.YtkfmilfmpmmpkaaDoor
