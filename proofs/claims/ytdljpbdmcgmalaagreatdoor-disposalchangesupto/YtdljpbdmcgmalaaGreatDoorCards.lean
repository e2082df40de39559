/-
  DERIVED. GIVEN WITH THE SEED: THE CARDS: each row of YtdljpbdmcgmalaaGreatDoorRows.lean that lists a variable, with what it lists TIED to the program's text (the seventh form; the later family's looks); each row that meets fmt, with fmt's text TOLD by the authors' own Lean function (tested against real Go, not proved from fmt's source: count such statements apart). THE CARD IS WHAT COUNTS. Prove the row's statement (the work); the ties are given (YtdljpbdmcgmalaaGreatDoorTie.lean); close each card by the builder's one call (the guide's Derived/Test/ToyasCard.lean, 'card_holds'). Laid BY PROGRAM, IN A SANDBOX (cutbox-door.mjs). By AI agents, Wed Nov 11 2026. No macro, syntax, notation, axiom, sorry.
-/
import Derived.Test.YtdljpbdmcgmalaaGreatDoorRows
import GoSem.ClaimSeven
namespace Go.Proofs.YtdljpbdmcgmalaaGreatDoor
namespace Rows

/-- THE TIED CARD OF 'archivumlaw14.DisposalChecks'. -/
def disposalChecksCard : Claim7 := { stood := { row := disposalChecksRow, standIns := [], harness := (true, "c0d8341300243631cb56d58ca15d6fe7fc19573e211fcdcd2ef329de38405eef"), looks := true }, kinds := [], alts := [], laidByText := true, laidKinds := [.data, .data, .data, .data, .sentinel, .sentinel, .listed, .data, .pinned], laidTests := true, laidLooks := .later }
def DisposalChecksCardSaid : Prop := Claim7.holds Tryz.pinned (.plain (OpenSpec.ofChange disposalChecksSpec)) disposalChecksCard

/-- THE TIED CARD OF 'archivumlaw14.DisposalChanges'. -/
def disposalChangesCard : Claim7 := { stood := { row := disposalChangesRow, standIns := [], harness := (true, "c0d8341300243631cb56d58ca15d6fe7fc19573e211fcdcd2ef329de38405eef"), looks := true }, kinds := [], alts := [], laidByText := true, laidKinds := [.data, .data, .data, .data, .sentinel, .sentinel, .listed, .data, .pinned], laidTests := true, laidLooks := .later }
def DisposalChangesCardSaid : Prop := Claim7.holds Tryz.pinned (.plain (OpenSpec.ofChange disposalChangesSpec)) disposalChangesCard

/-- THE SECOND FORM's CARD OF 'archivumlaw14.DisposalChecks'. -/
def disposalChecksUptoCard : Claim7 := { stood := { row := disposalChecksUptoRow, standIns := [], harness := (true, "c0d8341300243631cb56d58ca15d6fe7fc19573e211fcdcd2ef329de38405eef"), looks := true }, kinds := [], alts := [], laidByText := true, laidKinds := [.data, .data, .data, .data, .sentinel, .sentinel, .listed, .data, .pinned], laidTests := true, laidLooks := .later }
def DisposalChecksUptoCardSaid : Prop := Claim7.holds Tryz.pinned (.plain (OpenSpec.upto disposalChecksSpec)) disposalChecksUptoCard

/-- THE SECOND FORM's CARD OF 'archivumlaw14.DisposalChanges'. -/
def disposalChangesUptoCard : Claim7 := { stood := { row := disposalChangesUptoRow, standIns := [], harness := (true, "c0d8341300243631cb56d58ca15d6fe7fc19573e211fcdcd2ef329de38405eef"), looks := true }, kinds := [], alts := [], laidByText := true, laidKinds := [.data, .data, .data, .data, .sentinel, .sentinel, .listed, .data, .pinned], laidTests := true, laidLooks := .later }
def DisposalChangesUptoCardSaid : Prop := Claim7.holds Tryz.pinned (.plain (OpenSpec.upto disposalChangesSpec)) disposalChangesUptoCard
end Rows
end Go.Proofs.YtdljpbdmcgmalaaGreatDoor
