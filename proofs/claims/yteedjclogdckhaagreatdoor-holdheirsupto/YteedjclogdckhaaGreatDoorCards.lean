/-
  DERIVED. GIVEN WITH THE SEED: THE CARDS: each row of YteedjclogdckhaaGreatDoorRows.lean that lists a variable, with what it lists TIED to the program's text (the seventh form; the later family's looks); each row that meets fmt, with fmt's text TOLD by the authors' own Lean function (tested against real Go, not proved from fmt's source: count such statements apart). THE CARD IS WHAT COUNTS. Prove the row's statement (the work); the ties are given (YteedjclogdckhaaGreatDoorTie.lean); close each card by the builder's one call (the guide's Derived/Test/ToyasCard.lean, 'card_holds'). Laid BY PROGRAM, IN A SANDBOX (cutbox-door.mjs). By AI agents, Wed Nov 11 2026. No macro, syntax, notation, axiom, sorry.
-/
import Derived.Test.YteedjclogdckhaaGreatDoorRows
import GoSem.ClaimSeven
namespace Go.Proofs.YteedjclogdckhaaGreatDoor
namespace Rows

/-- THE TIED CARD OF 'archivumlaw10.HoldCovers'. -/
def holdCoversCard : Claim7 := { stood := { row := holdCoversRow, standIns := [], harness := (true, "573d78d01a90364000486d7bda399052ba23efc7f63fe43f80c2999f7da6a546"), looks := true }, kinds := [], alts := [], laidByText := true, laidKinds := [.data, .data, .data, .data, .sentinel, .sentinel, .listed, .data, .pinned], laidTests := true, laidLooks := .later }
def HoldCoversCardSaid : Prop := Claim7.holds Tryz.pinned (.plain (OpenSpec.ofChange holdCoversSpec)) holdCoversCard

/-- THE TIED CARD OF 'archivumlaw10.HoldWider'. -/
def holdWiderCard : Claim7 := { stood := { row := holdWiderRow, standIns := [], harness := (true, "573d78d01a90364000486d7bda399052ba23efc7f63fe43f80c2999f7da6a546"), looks := true }, kinds := [], alts := [], laidByText := true, laidKinds := [.data, .data, .data, .data, .sentinel, .sentinel, .listed, .data, .pinned], laidTests := true, laidLooks := .later }
def HoldWiderCardSaid : Prop := Claim7.holds Tryz.pinned (.plain (OpenSpec.ofChange holdWiderSpec)) holdWiderCard

/-- THE TIED CARD OF 'archivumlaw10.HoldEach'. -/
def holdEachCard : Claim7 := { stood := { row := holdEachRow, standIns := [], harness := (true, "573d78d01a90364000486d7bda399052ba23efc7f63fe43f80c2999f7da6a546"), looks := true }, kinds := [], alts := [], laidByText := true, laidKinds := [.data, .data, .data, .data, .sentinel, .sentinel, .listed, .data, .pinned], laidTests := true, laidLooks := .later }
def HoldEachCardSaid : Prop := Claim7.holds Tryz.pinned (.plain (OpenSpec.ofChange holdEachSpec)) holdEachCard

/-- THE TIED CARD OF 'archivumlaw10.HoldLists'. -/
def holdListsCard : Claim7 := { stood := { row := holdListsRow, standIns := [], harness := (true, "573d78d01a90364000486d7bda399052ba23efc7f63fe43f80c2999f7da6a546"), looks := true }, kinds := [], alts := [], laidByText := true, laidKinds := [.data, .data, .data, .data, .sentinel, .sentinel, .listed, .data, .pinned], laidTests := true, laidLooks := .later }
def HoldListsCardSaid : Prop := Claim7.holds Tryz.pinned (.plain (OpenSpec.ofChange holdListsSpec)) holdListsCard

/-- THE TIED CARD OF 'archivumlaw10.HoldChecks'. -/
def holdChecksCard : Claim7 := { stood := { row := holdChecksRow, standIns := [], harness := (true, "573d78d01a90364000486d7bda399052ba23efc7f63fe43f80c2999f7da6a546"), looks := true }, kinds := [], alts := [], laidByText := true, laidKinds := [.data, .data, .data, .data, .sentinel, .sentinel, .listed, .data, .pinned], laidTests := true, laidLooks := .later }
def HoldChecksCardSaid : Prop := Claim7.holds Tryz.pinned (.plain (OpenSpec.ofChange holdChecksSpec)) holdChecksCard

/-- THE TIED CARD OF 'archivumlaw10.HoldReleased'. -/
def holdReleasedCard : Claim7 := { stood := { row := holdReleasedRow, standIns := [], harness := (true, "573d78d01a90364000486d7bda399052ba23efc7f63fe43f80c2999f7da6a546"), looks := true }, kinds := [], alts := [], laidByText := true, laidKinds := [.data, .data, .data, .data, .sentinel, .sentinel, .listed, .data, .pinned], laidTests := true, laidLooks := .later }
def HoldReleasedCardSaid : Prop := Claim7.holds Tryz.pinned (.plain (OpenSpec.ofChange holdReleasedSpec)) holdReleasedCard

/-- THE TIED CARD OF 'archivumlaw10.HoldHeirs'. -/
def holdHeirsCard : Claim7 := { stood := { row := holdHeirsRow, standIns := [], harness := (true, "573d78d01a90364000486d7bda399052ba23efc7f63fe43f80c2999f7da6a546"), looks := true }, kinds := [], alts := [], laidByText := true, laidKinds := [.data, .data, .data, .data, .sentinel, .sentinel, .listed, .data, .pinned], laidTests := true, laidLooks := .later }
def HoldHeirsCardSaid : Prop := Claim7.holds Tryz.pinned (.plain (OpenSpec.ofChange holdHeirsSpec)) holdHeirsCard

/-- THE SECOND FORM's CARD OF 'archivumlaw10.HoldCovers'. -/
def holdCoversUptoCard : Claim7 := { stood := { row := holdCoversUptoRow, standIns := [], harness := (true, "573d78d01a90364000486d7bda399052ba23efc7f63fe43f80c2999f7da6a546"), looks := true }, kinds := [], alts := [], laidByText := true, laidKinds := [.data, .data, .data, .data, .sentinel, .sentinel, .listed, .data, .pinned], laidTests := true, laidLooks := .later }
def HoldCoversUptoCardSaid : Prop := Claim7.holds Tryz.pinned (.plain (OpenSpec.upto holdCoversSpec)) holdCoversUptoCard

/-- THE SECOND FORM's CARD OF 'archivumlaw10.HoldWider'. -/
def holdWiderUptoCard : Claim7 := { stood := { row := holdWiderUptoRow, standIns := [], harness := (true, "573d78d01a90364000486d7bda399052ba23efc7f63fe43f80c2999f7da6a546"), looks := true }, kinds := [], alts := [], laidByText := true, laidKinds := [.data, .data, .data, .data, .sentinel, .sentinel, .listed, .data, .pinned], laidTests := true, laidLooks := .later }
def HoldWiderUptoCardSaid : Prop := Claim7.holds Tryz.pinned (.plain (OpenSpec.upto holdWiderSpec)) holdWiderUptoCard

/-- THE SECOND FORM's CARD OF 'archivumlaw10.HoldEach'. -/
def holdEachUptoCard : Claim7 := { stood := { row := holdEachUptoRow, standIns := [], harness := (true, "573d78d01a90364000486d7bda399052ba23efc7f63fe43f80c2999f7da6a546"), looks := true }, kinds := [], alts := [], laidByText := true, laidKinds := [.data, .data, .data, .data, .sentinel, .sentinel, .listed, .data, .pinned], laidTests := true, laidLooks := .later }
def HoldEachUptoCardSaid : Prop := Claim7.holds Tryz.pinned (.plain (OpenSpec.upto holdEachSpec)) holdEachUptoCard

/-- THE SECOND FORM's CARD OF 'archivumlaw10.HoldLists'. -/
def holdListsUptoCard : Claim7 := { stood := { row := holdListsUptoRow, standIns := [], harness := (true, "573d78d01a90364000486d7bda399052ba23efc7f63fe43f80c2999f7da6a546"), looks := true }, kinds := [], alts := [], laidByText := true, laidKinds := [.data, .data, .data, .data, .sentinel, .sentinel, .listed, .data, .pinned], laidTests := true, laidLooks := .later }
def HoldListsUptoCardSaid : Prop := Claim7.holds Tryz.pinned (.plain (OpenSpec.upto holdListsSpec)) holdListsUptoCard

/-- THE SECOND FORM's CARD OF 'archivumlaw10.HoldChecks'. -/
def holdChecksUptoCard : Claim7 := { stood := { row := holdChecksUptoRow, standIns := [], harness := (true, "573d78d01a90364000486d7bda399052ba23efc7f63fe43f80c2999f7da6a546"), looks := true }, kinds := [], alts := [], laidByText := true, laidKinds := [.data, .data, .data, .data, .sentinel, .sentinel, .listed, .data, .pinned], laidTests := true, laidLooks := .later }
def HoldChecksUptoCardSaid : Prop := Claim7.holds Tryz.pinned (.plain (OpenSpec.upto holdChecksSpec)) holdChecksUptoCard

/-- THE SECOND FORM's CARD OF 'archivumlaw10.HoldReleased'. -/
def holdReleasedUptoCard : Claim7 := { stood := { row := holdReleasedUptoRow, standIns := [], harness := (true, "573d78d01a90364000486d7bda399052ba23efc7f63fe43f80c2999f7da6a546"), looks := true }, kinds := [], alts := [], laidByText := true, laidKinds := [.data, .data, .data, .data, .sentinel, .sentinel, .listed, .data, .pinned], laidTests := true, laidLooks := .later }
def HoldReleasedUptoCardSaid : Prop := Claim7.holds Tryz.pinned (.plain (OpenSpec.upto holdReleasedSpec)) holdReleasedUptoCard

/-- THE SECOND FORM's CARD OF 'archivumlaw10.HoldHeirs'. -/
def holdHeirsUptoCard : Claim7 := { stood := { row := holdHeirsUptoRow, standIns := [], harness := (true, "573d78d01a90364000486d7bda399052ba23efc7f63fe43f80c2999f7da6a546"), looks := true }, kinds := [], alts := [], laidByText := true, laidKinds := [.data, .data, .data, .data, .sentinel, .sentinel, .listed, .data, .pinned], laidTests := true, laidLooks := .later }
def HoldHeirsUptoCardSaid : Prop := Claim7.holds Tryz.pinned (.plain (OpenSpec.upto holdHeirsSpec)) holdHeirsUptoCard
end Rows
end Go.Proofs.YteedjclogdckhaaGreatDoor
