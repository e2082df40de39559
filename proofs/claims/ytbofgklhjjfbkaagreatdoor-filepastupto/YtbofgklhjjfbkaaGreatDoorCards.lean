/-
  DERIVED. GIVEN WITH THE SEED: THE CARDS: each row of YtbofgklhjjfbkaaGreatDoorRows.lean that lists a variable, with what it lists TIED to the program's text (the seventh form; the later family's looks); each row that meets fmt, with fmt's text TOLD by the authors' own Lean function (tested against real Go, not proved from fmt's source: count such statements apart). THE CARD IS WHAT COUNTS. Prove the row's statement (the work); the ties are given (YtbofgklhjjfbkaaGreatDoorTie.lean); close each card by the builder's one call (the guide's Derived/Test/ToyasCard.lean, 'card_holds'). Laid BY PROGRAM, IN A SANDBOX (cutbox-door.mjs). By AI agents, Wed Nov 11 2026. No macro, syntax, notation, axiom, sorry.
-/
import Derived.Test.YtbofgklhjjfbkaaGreatDoorRows
import GoSem.ClaimSeven
namespace Go.Proofs.YtbofgklhjjfbkaaGreatDoor
namespace Rows

/-- THE TIED CARD OF 'archivumlaw08.FileTriggers'. -/
def fileTriggersCard : Claim7 := { stood := { row := fileTriggersRow, standIns := [], harness := (true, "41f3c3119897a127f4a7d25147d198b6f6c1e971387fc48e23b55601d584fe3a"), looks := true }, kinds := [], alts := [], laidByText := true, laidKinds := [.data, .data, .data, .data, .sentinel, .sentinel, .listed, .data, .pinned], laidTests := true, laidLooks := .later }
def FileTriggersCardSaid : Prop := Claim7.holds Tryz.pinned (.plain (OpenSpec.ofChange fileTriggersSpec)) fileTriggersCard

/-- THE TIED CARD OF 'archivumlaw08.FileClasses'. -/
def fileClassesCard : Claim7 := { stood := { row := fileClassesRow, standIns := [], harness := (true, "41f3c3119897a127f4a7d25147d198b6f6c1e971387fc48e23b55601d584fe3a"), looks := true }, kinds := [], alts := [], laidByText := true, laidKinds := [.data, .data, .data, .data, .sentinel, .sentinel, .listed, .data, .pinned], laidTests := true, laidLooks := .later }
def FileClassesCardSaid : Prop := Claim7.holds Tryz.pinned (.plain (OpenSpec.ofChange fileClassesSpec)) fileClassesCard

/-- THE TIED CARD OF 'archivumlaw08.FileLatest'. -/
def fileLatestCard : Claim7 := { stood := { row := fileLatestRow, standIns := [], harness := (true, "41f3c3119897a127f4a7d25147d198b6f6c1e971387fc48e23b55601d584fe3a"), looks := true }, kinds := [], alts := [], laidByText := true, laidKinds := [.data, .data, .data, .data, .sentinel, .sentinel, .listed, .data, .pinned], laidTests := true, laidLooks := .later }
def FileLatestCardSaid : Prop := Claim7.holds Tryz.pinned (.plain (OpenSpec.ofChange fileLatestSpec)) fileLatestCard

/-- THE TIED CARD OF 'archivumlaw08.FileMoves'. -/
def fileMovesCard : Claim7 := { stood := { row := fileMovesRow, standIns := [], harness := (true, "41f3c3119897a127f4a7d25147d198b6f6c1e971387fc48e23b55601d584fe3a"), looks := true }, kinds := [], alts := [], laidByText := true, laidKinds := [.data, .data, .data, .data, .sentinel, .sentinel, .listed, .data, .pinned], laidTests := true, laidLooks := .later }
def FileMovesCardSaid : Prop := Claim7.holds Tryz.pinned (.plain (OpenSpec.ofChange fileMovesSpec)) fileMovesCard

/-- THE TIED CARD OF 'archivumlaw08.FileLearns'. -/
def fileLearnsCard : Claim7 := { stood := { row := fileLearnsRow, standIns := [], harness := (true, "41f3c3119897a127f4a7d25147d198b6f6c1e971387fc48e23b55601d584fe3a"), looks := true }, kinds := [], alts := [], laidByText := true, laidKinds := [.data, .data, .data, .data, .sentinel, .sentinel, .listed, .data, .pinned], laidTests := true, laidLooks := .later }
def FileLearnsCardSaid : Prop := Claim7.holds Tryz.pinned (.plain (OpenSpec.ofChange fileLearnsSpec)) fileLearnsCard

/-- THE TIED CARD OF 'archivumlaw08.FileChecks'. -/
def fileChecksCard : Claim7 := { stood := { row := fileChecksRow, standIns := [], harness := (true, "41f3c3119897a127f4a7d25147d198b6f6c1e971387fc48e23b55601d584fe3a"), looks := true }, kinds := [], alts := [], laidByText := true, laidKinds := [.data, .data, .data, .data, .sentinel, .sentinel, .listed, .data, .pinned], laidTests := true, laidLooks := .later }
def FileChecksCardSaid : Prop := Claim7.holds Tryz.pinned (.plain (OpenSpec.ofChange fileChecksSpec)) fileChecksCard

/-- THE TIED CARD OF 'archivumlaw08.FilePast'. -/
def filePastCard : Claim7 := { stood := { row := filePastRow, standIns := [], harness := (true, "41f3c3119897a127f4a7d25147d198b6f6c1e971387fc48e23b55601d584fe3a"), looks := true }, kinds := [], alts := [], laidByText := true, laidKinds := [.data, .data, .data, .data, .sentinel, .sentinel, .listed, .data, .pinned], laidTests := true, laidLooks := .later }
def FilePastCardSaid : Prop := Claim7.holds Tryz.pinned (.plain (OpenSpec.ofChange filePastSpec)) filePastCard

/-- THE SECOND FORM's CARD OF 'archivumlaw08.FileTriggers'. -/
def fileTriggersUptoCard : Claim7 := { stood := { row := fileTriggersUptoRow, standIns := [], harness := (true, "41f3c3119897a127f4a7d25147d198b6f6c1e971387fc48e23b55601d584fe3a"), looks := true }, kinds := [], alts := [], laidByText := true, laidKinds := [.data, .data, .data, .data, .sentinel, .sentinel, .listed, .data, .pinned], laidTests := true, laidLooks := .later }
def FileTriggersUptoCardSaid : Prop := Claim7.holds Tryz.pinned (.plain (OpenSpec.upto fileTriggersSpec)) fileTriggersUptoCard

/-- THE SECOND FORM's CARD OF 'archivumlaw08.FileClasses'. -/
def fileClassesUptoCard : Claim7 := { stood := { row := fileClassesUptoRow, standIns := [], harness := (true, "41f3c3119897a127f4a7d25147d198b6f6c1e971387fc48e23b55601d584fe3a"), looks := true }, kinds := [], alts := [], laidByText := true, laidKinds := [.data, .data, .data, .data, .sentinel, .sentinel, .listed, .data, .pinned], laidTests := true, laidLooks := .later }
def FileClassesUptoCardSaid : Prop := Claim7.holds Tryz.pinned (.plain (OpenSpec.upto fileClassesSpec)) fileClassesUptoCard

/-- THE SECOND FORM's CARD OF 'archivumlaw08.FileLatest'. -/
def fileLatestUptoCard : Claim7 := { stood := { row := fileLatestUptoRow, standIns := [], harness := (true, "41f3c3119897a127f4a7d25147d198b6f6c1e971387fc48e23b55601d584fe3a"), looks := true }, kinds := [], alts := [], laidByText := true, laidKinds := [.data, .data, .data, .data, .sentinel, .sentinel, .listed, .data, .pinned], laidTests := true, laidLooks := .later }
def FileLatestUptoCardSaid : Prop := Claim7.holds Tryz.pinned (.plain (OpenSpec.upto fileLatestSpec)) fileLatestUptoCard

/-- THE SECOND FORM's CARD OF 'archivumlaw08.FileMoves'. -/
def fileMovesUptoCard : Claim7 := { stood := { row := fileMovesUptoRow, standIns := [], harness := (true, "41f3c3119897a127f4a7d25147d198b6f6c1e971387fc48e23b55601d584fe3a"), looks := true }, kinds := [], alts := [], laidByText := true, laidKinds := [.data, .data, .data, .data, .sentinel, .sentinel, .listed, .data, .pinned], laidTests := true, laidLooks := .later }
def FileMovesUptoCardSaid : Prop := Claim7.holds Tryz.pinned (.plain (OpenSpec.upto fileMovesSpec)) fileMovesUptoCard

/-- THE SECOND FORM's CARD OF 'archivumlaw08.FileLearns'. -/
def fileLearnsUptoCard : Claim7 := { stood := { row := fileLearnsUptoRow, standIns := [], harness := (true, "41f3c3119897a127f4a7d25147d198b6f6c1e971387fc48e23b55601d584fe3a"), looks := true }, kinds := [], alts := [], laidByText := true, laidKinds := [.data, .data, .data, .data, .sentinel, .sentinel, .listed, .data, .pinned], laidTests := true, laidLooks := .later }
def FileLearnsUptoCardSaid : Prop := Claim7.holds Tryz.pinned (.plain (OpenSpec.upto fileLearnsSpec)) fileLearnsUptoCard

/-- THE SECOND FORM's CARD OF 'archivumlaw08.FileChecks'. -/
def fileChecksUptoCard : Claim7 := { stood := { row := fileChecksUptoRow, standIns := [], harness := (true, "41f3c3119897a127f4a7d25147d198b6f6c1e971387fc48e23b55601d584fe3a"), looks := true }, kinds := [], alts := [], laidByText := true, laidKinds := [.data, .data, .data, .data, .sentinel, .sentinel, .listed, .data, .pinned], laidTests := true, laidLooks := .later }
def FileChecksUptoCardSaid : Prop := Claim7.holds Tryz.pinned (.plain (OpenSpec.upto fileChecksSpec)) fileChecksUptoCard

/-- THE SECOND FORM's CARD OF 'archivumlaw08.FilePast'. -/
def filePastUptoCard : Claim7 := { stood := { row := filePastUptoRow, standIns := [], harness := (true, "41f3c3119897a127f4a7d25147d198b6f6c1e971387fc48e23b55601d584fe3a"), looks := true }, kinds := [], alts := [], laidByText := true, laidKinds := [.data, .data, .data, .data, .sentinel, .sentinel, .listed, .data, .pinned], laidTests := true, laidLooks := .later }
def FilePastUptoCardSaid : Prop := Claim7.holds Tryz.pinned (.plain (OpenSpec.upto filePastSpec)) filePastUptoCard
end Rows
end Go.Proofs.YtbofgklhjjfbkaaGreatDoor
