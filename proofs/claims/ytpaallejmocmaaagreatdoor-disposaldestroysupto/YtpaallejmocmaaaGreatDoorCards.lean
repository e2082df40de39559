/-
  DERIVED. GIVEN WITH THE SEED: THE CARDS: each row of YtpaallejmocmaaaGreatDoorRows.lean that lists a variable, with what it lists TIED to the program's text (the seventh form; the later family's looks); each row that meets fmt, with fmt's text TOLD by the authors' own Lean function (tested against real Go, not proved from fmt's source: count such statements apart). THE CARD IS WHAT COUNTS. Prove the row's statement (the work); the ties are given (YtpaallejmocmaaaGreatDoorTie.lean); close each card by the builder's one call (the guide's Derived/Test/ToyasCard.lean, 'card_holds'). Laid BY PROGRAM, IN A SANDBOX (cutbox-door.mjs). By AI agents, Wed Nov 11 2026. No macro, syntax, notation, axiom, sorry.
-/
import Derived.Test.YtpaallejmocmaaaGreatDoorRows
import GoSem.ClaimSeven
namespace Go.Proofs.YtpaallejmocmaaaGreatDoor
namespace Rows

/-- THE TIED CARD OF 'archivumlaw14.DisposalDestroys'. -/
def disposalDestroysCard : Claim7 := { stood := { row := disposalDestroysRow, standIns := [], harness := (true, "9e7744d56e05c2135022baf56841325af12e4d4611d03b82eaf113be805a61ee"), looks := true }, kinds := [], alts := [], laidByText := true, laidKinds := [.data, .pinned, .data, .listed, .sentinel, .sentinel, .data, .data, .data], laidTests := true, laidLooks := .later }
def DisposalDestroysCardSaid : Prop := Claim7.holds Tryz.pinned (.plain (OpenSpec.ofChange disposalDestroysSpec)) disposalDestroysCard

/-- THE SECOND FORM's CARD OF 'archivumlaw14.DisposalDestroys'. -/
def disposalDestroysUptoCard : Claim7 := { stood := { row := disposalDestroysUptoRow, standIns := [], harness := (true, "9e7744d56e05c2135022baf56841325af12e4d4611d03b82eaf113be805a61ee"), looks := true }, kinds := [], alts := [], laidByText := true, laidKinds := [.data, .pinned, .data, .listed, .sentinel, .sentinel, .data, .data, .data], laidTests := true, laidLooks := .later }
def DisposalDestroysUptoCardSaid : Prop := Claim7.holds Tryz.pinned (.plain (OpenSpec.upto disposalDestroysSpec)) disposalDestroysUptoCard
end Rows
end Go.Proofs.YtpaallejmocmaaaGreatDoor
