/-
  DERIVED. GIVEN WITH THE SEED: THE CARDS: each row of YtofdpgcnconibaaGreatDoorRows.lean that lists a variable, with what it lists TIED to the program's text (the seventh form; the later family's looks); each row that meets fmt, with fmt's text TOLD by the authors' own Lean function (tested against real Go, not proved from fmt's source: count such statements apart). THE CARD IS WHAT COUNTS. Prove the row's statement (the work); the ties are given (YtofdpgcnconibaaGreatDoorTie.lean); close each card by the builder's one call (the guide's Derived/Test/ToyasCard.lean, 'card_holds'). Laid BY PROGRAM, IN A SANDBOX (cutbox-door.mjs). By AI agents, Wed Nov 11 2026. No macro, syntax, notation, axiom, sorry.
-/
import Derived.Test.YtofdpgcnconibaaGreatDoorRows
import GoSem.ClaimSeven
namespace Go.Proofs.YtofdpgcnconibaaGreatDoor
namespace Rows

/-- THE TIED CARD OF 'coppicelaw19.CmdWrites'. -/
def cmdWritesCard : Claim7 := { stood := { row := cmdWritesRow, standIns := [], harness := (true, "cd4543b1b72ac9d4d699e839f1ee402112abcc7eb4e8a93bcdfd11fa0deb44f9"), looks := true }, kinds := [], alts := [], laidByText := true, laidKinds := [.data, .data, .data, .data, .handle, .sentinel, .sentinel, .pinned], laidTests := true, laidLooks := .later }
def CmdWritesCardSaid : Prop := Claim7.holds Tryz.pinned (.plain (OpenSpec.ofChange cmdWritesSpec)) cmdWritesCard

/-- THE TIED CARD OF 'coppicelaw19.CmdReads'. -/
def cmdReadsCard : Claim7 := { stood := { row := cmdReadsRow, standIns := [], harness := (true, "cd4543b1b72ac9d4d699e839f1ee402112abcc7eb4e8a93bcdfd11fa0deb44f9"), looks := true }, kinds := [], alts := [], laidByText := true, laidKinds := [.data, .data, .data, .data, .handle, .sentinel, .sentinel, .pinned], laidTests := true, laidLooks := .later }
def CmdReadsCardSaid : Prop := Claim7.holds Tryz.pinned (.plain (OpenSpec.ofChange cmdReadsSpec)) cmdReadsCard

/-- THE TIED CARD OF 'coppicelaw19.CmdBack'. -/
def cmdBackCard : Claim7 := { stood := { row := cmdBackRow, standIns := [], harness := (true, "cd4543b1b72ac9d4d699e839f1ee402112abcc7eb4e8a93bcdfd11fa0deb44f9"), looks := true }, kinds := [], alts := [], laidByText := true, laidKinds := [.data, .data, .data, .data, .handle, .sentinel, .sentinel, .pinned], laidTests := true, laidLooks := .later }
def CmdBackCardSaid : Prop := Claim7.holds Tryz.pinned (.plain (OpenSpec.ofChange cmdBackSpec)) cmdBackCard

/-- THE TIED CARD OF 'coppicelaw19.CmdCuts'. -/
def cmdCutsCard : Claim7 := { stood := { row := cmdCutsRow, standIns := [], harness := (true, "cd4543b1b72ac9d4d699e839f1ee402112abcc7eb4e8a93bcdfd11fa0deb44f9"), looks := true }, kinds := [], alts := [], laidByText := true, laidKinds := [.data, .data, .data, .data, .handle, .sentinel, .sentinel, .pinned], laidTests := true, laidLooks := .later }
def CmdCutsCardSaid : Prop := Claim7.holds Tryz.pinned (.plain (OpenSpec.ofChange cmdCutsSpec)) cmdCutsCard

/-- THE TIED CARD OF 'coppicelaw19.CmdTexts'. -/
def cmdTextsCard : Claim7 := { stood := { row := cmdTextsRow, standIns := [], harness := (true, "cd4543b1b72ac9d4d699e839f1ee402112abcc7eb4e8a93bcdfd11fa0deb44f9"), looks := true }, kinds := [], alts := [], laidByText := true, laidKinds := [.data, .data, .data, .data, .handle, .sentinel, .sentinel, .pinned], laidTests := true, laidLooks := .later }
def CmdTextsCardSaid : Prop := Claim7.holds Tryz.pinned (.plain (OpenSpec.ofChange cmdTextsSpec)) cmdTextsCard

/-- THE SECOND FORM's CARD OF 'coppicelaw19.CmdWrites'. -/
def cmdWritesUptoCard : Claim7 := { stood := { row := cmdWritesUptoRow, standIns := [], harness := (true, "cd4543b1b72ac9d4d699e839f1ee402112abcc7eb4e8a93bcdfd11fa0deb44f9"), looks := true }, kinds := [], alts := [], laidByText := true, laidKinds := [.data, .data, .data, .data, .handle, .sentinel, .sentinel, .pinned], laidTests := true, laidLooks := .later }
def CmdWritesUptoCardSaid : Prop := Claim7.holds Tryz.pinned (.plain (OpenSpec.upto cmdWritesSpec)) cmdWritesUptoCard

/-- THE SECOND FORM's CARD OF 'coppicelaw19.CmdReads'. -/
def cmdReadsUptoCard : Claim7 := { stood := { row := cmdReadsUptoRow, standIns := [], harness := (true, "cd4543b1b72ac9d4d699e839f1ee402112abcc7eb4e8a93bcdfd11fa0deb44f9"), looks := true }, kinds := [], alts := [], laidByText := true, laidKinds := [.data, .data, .data, .data, .handle, .sentinel, .sentinel, .pinned], laidTests := true, laidLooks := .later }
def CmdReadsUptoCardSaid : Prop := Claim7.holds Tryz.pinned (.plain (OpenSpec.upto cmdReadsSpec)) cmdReadsUptoCard

/-- THE SECOND FORM's CARD OF 'coppicelaw19.CmdBack'. -/
def cmdBackUptoCard : Claim7 := { stood := { row := cmdBackUptoRow, standIns := [], harness := (true, "cd4543b1b72ac9d4d699e839f1ee402112abcc7eb4e8a93bcdfd11fa0deb44f9"), looks := true }, kinds := [], alts := [], laidByText := true, laidKinds := [.data, .data, .data, .data, .handle, .sentinel, .sentinel, .pinned], laidTests := true, laidLooks := .later }
def CmdBackUptoCardSaid : Prop := Claim7.holds Tryz.pinned (.plain (OpenSpec.upto cmdBackSpec)) cmdBackUptoCard

/-- THE SECOND FORM's CARD OF 'coppicelaw19.CmdCuts'. -/
def cmdCutsUptoCard : Claim7 := { stood := { row := cmdCutsUptoRow, standIns := [], harness := (true, "cd4543b1b72ac9d4d699e839f1ee402112abcc7eb4e8a93bcdfd11fa0deb44f9"), looks := true }, kinds := [], alts := [], laidByText := true, laidKinds := [.data, .data, .data, .data, .handle, .sentinel, .sentinel, .pinned], laidTests := true, laidLooks := .later }
def CmdCutsUptoCardSaid : Prop := Claim7.holds Tryz.pinned (.plain (OpenSpec.upto cmdCutsSpec)) cmdCutsUptoCard

/-- THE SECOND FORM's CARD OF 'coppicelaw19.CmdTexts'. -/
def cmdTextsUptoCard : Claim7 := { stood := { row := cmdTextsUptoRow, standIns := [], harness := (true, "cd4543b1b72ac9d4d699e839f1ee402112abcc7eb4e8a93bcdfd11fa0deb44f9"), looks := true }, kinds := [], alts := [], laidByText := true, laidKinds := [.data, .data, .data, .data, .handle, .sentinel, .sentinel, .pinned], laidTests := true, laidLooks := .later }
def CmdTextsUptoCardSaid : Prop := Claim7.holds Tryz.pinned (.plain (OpenSpec.upto cmdTextsSpec)) cmdTextsUptoCard
end Rows
end Go.Proofs.YtofdpgcnconibaaGreatDoor
