/-
  DERIVED. GIVEN WITH THE SEED: THE CARDS: each row of YtnmclbgpndpedaaGreatDoorRows.lean that lists a variable, with what it lists TIED to the program's text (the seventh form; the later family's looks); each row that meets fmt, with fmt's text TOLD by the authors' own Lean function (tested against real Go, not proved from fmt's source: count such statements apart). THE CARD IS WHAT COUNTS. Prove the row's statement (the work); the ties are given (YtnmclbgpndpedaaGreatDoorTie.lean); close each card by the builder's one call (the guide's Derived/Test/ToyasCard.lean, 'card_holds'). Laid BY PROGRAM, IN A SANDBOX (cutbox-door.mjs). By AI agents, Wed Nov 11 2026. No macro, syntax, notation, axiom, sorry.
-/
import Derived.Test.YtnmclbgpndpedaaGreatDoorRows
import GoSem.ClaimSeven
namespace Go.Proofs.YtnmclbgpndpedaaGreatDoor
namespace Rows

/-- THE TIED CARD OF 'archivumlaw14.DisposalNeeds'. -/
def disposalNeedsCard : Claim7 := { stood := { row := disposalNeedsRow, standIns := [], harness := (true, "ac7fa7abdd23eed6ff8a109ebea3d3e26745578ade4919a2627431f8efa2e169"), looks := true }, kinds := [], alts := [], laidByText := true, laidKinds := [.data, .data, .data, .data, .sentinel, .sentinel, .listed, .data, .pinned], laidTests := true, laidLooks := .later }
def DisposalNeedsCardSaid : Prop := Claim7.holds Tryz.pinned (.plain (OpenSpec.ofChange disposalNeedsSpec)) disposalNeedsCard

/-- THE TIED CARD OF 'archivumlaw14.DisposalWithdrawn'. -/
def disposalWithdrawnCard : Claim7 := { stood := { row := disposalWithdrawnRow, standIns := [], harness := (true, "ac7fa7abdd23eed6ff8a109ebea3d3e26745578ade4919a2627431f8efa2e169"), looks := true }, kinds := [], alts := [], laidByText := true, laidKinds := [.data, .data, .data, .data, .sentinel, .sentinel, .listed, .data, .pinned], laidTests := true, laidLooks := .later }
def DisposalWithdrawnCardSaid : Prop := Claim7.holds Tryz.pinned (.plain (OpenSpec.ofChange disposalWithdrawnSpec)) disposalWithdrawnCard

/-- THE TIED CARD OF 'archivumlaw14.DisposalKeeps'. -/
def disposalKeepsCard : Claim7 := { stood := { row := disposalKeepsRow, standIns := [], harness := (true, "ac7fa7abdd23eed6ff8a109ebea3d3e26745578ade4919a2627431f8efa2e169"), looks := true }, kinds := [], alts := [], laidByText := true, laidKinds := [.data, .data, .data, .data, .sentinel, .sentinel, .listed, .data, .pinned], laidTests := true, laidLooks := .later }
def DisposalKeepsCardSaid : Prop := Claim7.holds Tryz.pinned (.plain (OpenSpec.ofChange disposalKeepsSpec)) disposalKeepsCard

/-- THE SECOND FORM's CARD OF 'archivumlaw14.DisposalNeeds'. -/
def disposalNeedsUptoCard : Claim7 := { stood := { row := disposalNeedsUptoRow, standIns := [], harness := (true, "ac7fa7abdd23eed6ff8a109ebea3d3e26745578ade4919a2627431f8efa2e169"), looks := true }, kinds := [], alts := [], laidByText := true, laidKinds := [.data, .data, .data, .data, .sentinel, .sentinel, .listed, .data, .pinned], laidTests := true, laidLooks := .later }
def DisposalNeedsUptoCardSaid : Prop := Claim7.holds Tryz.pinned (.plain (OpenSpec.upto disposalNeedsSpec)) disposalNeedsUptoCard

/-- THE SECOND FORM's CARD OF 'archivumlaw14.DisposalWithdrawn'. -/
def disposalWithdrawnUptoCard : Claim7 := { stood := { row := disposalWithdrawnUptoRow, standIns := [], harness := (true, "ac7fa7abdd23eed6ff8a109ebea3d3e26745578ade4919a2627431f8efa2e169"), looks := true }, kinds := [], alts := [], laidByText := true, laidKinds := [.data, .data, .data, .data, .sentinel, .sentinel, .listed, .data, .pinned], laidTests := true, laidLooks := .later }
def DisposalWithdrawnUptoCardSaid : Prop := Claim7.holds Tryz.pinned (.plain (OpenSpec.upto disposalWithdrawnSpec)) disposalWithdrawnUptoCard

/-- THE SECOND FORM's CARD OF 'archivumlaw14.DisposalKeeps'. -/
def disposalKeepsUptoCard : Claim7 := { stood := { row := disposalKeepsUptoRow, standIns := [], harness := (true, "ac7fa7abdd23eed6ff8a109ebea3d3e26745578ade4919a2627431f8efa2e169"), looks := true }, kinds := [], alts := [], laidByText := true, laidKinds := [.data, .data, .data, .data, .sentinel, .sentinel, .listed, .data, .pinned], laidTests := true, laidLooks := .later }
def DisposalKeepsUptoCardSaid : Prop := Claim7.holds Tryz.pinned (.plain (OpenSpec.upto disposalKeepsSpec)) disposalKeepsUptoCard
end Rows
end Go.Proofs.YtnmclbgpndpedaaGreatDoor
