/-
  DERIVED. GIVEN WITH THE SEED: THE CARDS: each row of YtkmmdckcdgopgaaGreatDoorRows.lean that lists a variable, with what it lists TIED to the program's text (the seventh form; the later family's looks); each row that meets fmt, with fmt's text TOLD by the authors' own Lean function (tested against real Go, not proved from fmt's source: count such statements apart). THE CARD IS WHAT COUNTS. Prove the row's statement (the work); the ties are given (YtkmmdckcdgopgaaGreatDoorTie.lean); close each card by the builder's one call (the guide's Derived/Test/ToyasCard.lean, 'card_holds'). Laid BY PROGRAM, IN A SANDBOX (cutbox-door.mjs). By AI agents, Wed Nov 11 2026. No macro, syntax, notation, axiom, sorry.
-/
import Derived.Test.YtkmmdckcdgopgaaGreatDoorRows
import GoSem.ClaimSeven
namespace Go.Proofs.YtkmmdckcdgopgaaGreatDoor
namespace Rows

/-- THE TIED CARD OF 'archivumlaw11.VerdictChecks'. -/
def verdictChecksCard : Claim7 := { stood := { row := verdictChecksRow, standIns := [], harness := (true, "a4d4a9cc2c881795e541d309b2910b1887809ec8677ac5d6bf2ada76ca397782"), looks := true }, kinds := [], alts := [], laidByText := true, laidKinds := [.data, .data, .data, .data, .sentinel, .sentinel, .listed, .data, .pinned], laidTests := true, laidLooks := .later }
def VerdictChecksCardSaid : Prop := Claim7.holds Tryz.pinned (.plain (OpenSpec.ofChange verdictChecksSpec)) verdictChecksCard

/-- THE TIED CARD OF 'archivumlaw11.VerdictPermits'. -/
def verdictPermitsCard : Claim7 := { stood := { row := verdictPermitsRow, standIns := [], harness := (true, "a4d4a9cc2c881795e541d309b2910b1887809ec8677ac5d6bf2ada76ca397782"), looks := true }, kinds := [], alts := [], laidByText := true, laidKinds := [.data, .data, .data, .data, .sentinel, .sentinel, .listed, .data, .pinned], laidTests := true, laidLooks := .later }
def VerdictPermitsCardSaid : Prop := Claim7.holds Tryz.pinned (.plain (OpenSpec.ofChange verdictPermitsSpec)) verdictPermitsCard

/-- THE TIED CARD OF 'archivumlaw11.VerdictSafe'. -/
def verdictSafeCard : Claim7 := { stood := { row := verdictSafeRow, standIns := [], harness := (true, "a4d4a9cc2c881795e541d309b2910b1887809ec8677ac5d6bf2ada76ca397782"), looks := true }, kinds := [], alts := [], laidByText := true, laidKinds := [.data, .data, .data, .data, .sentinel, .sentinel, .listed, .data, .pinned], laidTests := true, laidLooks := .later }
def VerdictSafeCardSaid : Prop := Claim7.holds Tryz.pinned (.plain (OpenSpec.ofChange verdictSafeSpec)) verdictSafeCard

/-- THE TIED CARD OF 'archivumlaw11.VerdictLines'. -/
def verdictLinesCard : Claim7 := { stood := { row := verdictLinesRow, standIns := [], harness := (true, "a4d4a9cc2c881795e541d309b2910b1887809ec8677ac5d6bf2ada76ca397782"), looks := true }, kinds := [], alts := [], laidByText := true, laidKinds := [.data, .data, .data, .data, .sentinel, .sentinel, .listed, .data, .pinned], laidTests := true, laidLooks := .later }
def VerdictLinesCardSaid : Prop := Claim7.holds Tryz.pinned (.plain (OpenSpec.ofChange verdictLinesSpec)) verdictLinesCard

/-- THE TIED CARD OF 'archivumlaw11.VerdictOn'. -/
def verdictOnCard : Claim7 := { stood := { row := verdictOnRow, standIns := [], harness := (true, "a4d4a9cc2c881795e541d309b2910b1887809ec8677ac5d6bf2ada76ca397782"), looks := true }, kinds := [], alts := [], laidByText := true, laidKinds := [.data, .data, .data, .data, .sentinel, .sentinel, .listed, .data, .pinned], laidTests := true, laidLooks := .later }
def VerdictOnCardSaid : Prop := Claim7.holds Tryz.pinned (.plain (OpenSpec.ofChange verdictOnSpec)) verdictOnCard

/-- THE TIED CARD OF 'archivumlaw11.VerdictPast'. -/
def verdictPastCard : Claim7 := { stood := { row := verdictPastRow, standIns := [], harness := (true, "a4d4a9cc2c881795e541d309b2910b1887809ec8677ac5d6bf2ada76ca397782"), looks := true }, kinds := [], alts := [], laidByText := true, laidKinds := [.data, .data, .data, .data, .sentinel, .sentinel, .listed, .data, .pinned], laidTests := true, laidLooks := .later }
def VerdictPastCardSaid : Prop := Claim7.holds Tryz.pinned (.plain (OpenSpec.ofChange verdictPastSpec)) verdictPastCard

/-- THE TIED CARD OF 'archivumlaw11.VerdictAgrees'. -/
def verdictAgreesCard : Claim7 := { stood := { row := verdictAgreesRow, standIns := [], harness := (true, "a4d4a9cc2c881795e541d309b2910b1887809ec8677ac5d6bf2ada76ca397782"), looks := true }, kinds := [], alts := [], laidByText := true, laidKinds := [.data, .data, .data, .data, .sentinel, .sentinel, .listed, .data, .pinned], laidTests := true, laidLooks := .later }
def VerdictAgreesCardSaid : Prop := Claim7.holds Tryz.pinned (.plain (OpenSpec.ofChange verdictAgreesSpec)) verdictAgreesCard

/-- THE SECOND FORM's CARD OF 'archivumlaw11.VerdictChecks'. -/
def verdictChecksUptoCard : Claim7 := { stood := { row := verdictChecksUptoRow, standIns := [], harness := (true, "a4d4a9cc2c881795e541d309b2910b1887809ec8677ac5d6bf2ada76ca397782"), looks := true }, kinds := [], alts := [], laidByText := true, laidKinds := [.data, .data, .data, .data, .sentinel, .sentinel, .listed, .data, .pinned], laidTests := true, laidLooks := .later }
def VerdictChecksUptoCardSaid : Prop := Claim7.holds Tryz.pinned (.plain (OpenSpec.upto verdictChecksSpec)) verdictChecksUptoCard

/-- THE SECOND FORM's CARD OF 'archivumlaw11.VerdictPermits'. -/
def verdictPermitsUptoCard : Claim7 := { stood := { row := verdictPermitsUptoRow, standIns := [], harness := (true, "a4d4a9cc2c881795e541d309b2910b1887809ec8677ac5d6bf2ada76ca397782"), looks := true }, kinds := [], alts := [], laidByText := true, laidKinds := [.data, .data, .data, .data, .sentinel, .sentinel, .listed, .data, .pinned], laidTests := true, laidLooks := .later }
def VerdictPermitsUptoCardSaid : Prop := Claim7.holds Tryz.pinned (.plain (OpenSpec.upto verdictPermitsSpec)) verdictPermitsUptoCard

/-- THE SECOND FORM's CARD OF 'archivumlaw11.VerdictSafe'. -/
def verdictSafeUptoCard : Claim7 := { stood := { row := verdictSafeUptoRow, standIns := [], harness := (true, "a4d4a9cc2c881795e541d309b2910b1887809ec8677ac5d6bf2ada76ca397782"), looks := true }, kinds := [], alts := [], laidByText := true, laidKinds := [.data, .data, .data, .data, .sentinel, .sentinel, .listed, .data, .pinned], laidTests := true, laidLooks := .later }
def VerdictSafeUptoCardSaid : Prop := Claim7.holds Tryz.pinned (.plain (OpenSpec.upto verdictSafeSpec)) verdictSafeUptoCard

/-- THE SECOND FORM's CARD OF 'archivumlaw11.VerdictLines'. -/
def verdictLinesUptoCard : Claim7 := { stood := { row := verdictLinesUptoRow, standIns := [], harness := (true, "a4d4a9cc2c881795e541d309b2910b1887809ec8677ac5d6bf2ada76ca397782"), looks := true }, kinds := [], alts := [], laidByText := true, laidKinds := [.data, .data, .data, .data, .sentinel, .sentinel, .listed, .data, .pinned], laidTests := true, laidLooks := .later }
def VerdictLinesUptoCardSaid : Prop := Claim7.holds Tryz.pinned (.plain (OpenSpec.upto verdictLinesSpec)) verdictLinesUptoCard

/-- THE SECOND FORM's CARD OF 'archivumlaw11.VerdictOn'. -/
def verdictOnUptoCard : Claim7 := { stood := { row := verdictOnUptoRow, standIns := [], harness := (true, "a4d4a9cc2c881795e541d309b2910b1887809ec8677ac5d6bf2ada76ca397782"), looks := true }, kinds := [], alts := [], laidByText := true, laidKinds := [.data, .data, .data, .data, .sentinel, .sentinel, .listed, .data, .pinned], laidTests := true, laidLooks := .later }
def VerdictOnUptoCardSaid : Prop := Claim7.holds Tryz.pinned (.plain (OpenSpec.upto verdictOnSpec)) verdictOnUptoCard

/-- THE SECOND FORM's CARD OF 'archivumlaw11.VerdictPast'. -/
def verdictPastUptoCard : Claim7 := { stood := { row := verdictPastUptoRow, standIns := [], harness := (true, "a4d4a9cc2c881795e541d309b2910b1887809ec8677ac5d6bf2ada76ca397782"), looks := true }, kinds := [], alts := [], laidByText := true, laidKinds := [.data, .data, .data, .data, .sentinel, .sentinel, .listed, .data, .pinned], laidTests := true, laidLooks := .later }
def VerdictPastUptoCardSaid : Prop := Claim7.holds Tryz.pinned (.plain (OpenSpec.upto verdictPastSpec)) verdictPastUptoCard

/-- THE SECOND FORM's CARD OF 'archivumlaw11.VerdictAgrees'. -/
def verdictAgreesUptoCard : Claim7 := { stood := { row := verdictAgreesUptoRow, standIns := [], harness := (true, "a4d4a9cc2c881795e541d309b2910b1887809ec8677ac5d6bf2ada76ca397782"), looks := true }, kinds := [], alts := [], laidByText := true, laidKinds := [.data, .data, .data, .data, .sentinel, .sentinel, .listed, .data, .pinned], laidTests := true, laidLooks := .later }
def VerdictAgreesUptoCardSaid : Prop := Claim7.holds Tryz.pinned (.plain (OpenSpec.upto verdictAgreesSpec)) verdictAgreesUptoCard
end Rows
end Go.Proofs.YtkmmdckcdgopgaaGreatDoor
