/-
  DERIVED. GIVEN WITH THE SEED: THE CARDS: each row of YtagljlfkpofdnaaGreatDoorRows.lean that lists a variable, with what it lists TIED to the program's text (the seventh form; the later family's looks); each row that meets fmt, with fmt's text TOLD by the authors' own Lean function (tested against real Go, not proved from fmt's source: count such statements apart). THE CARD IS WHAT COUNTS. Prove the row's statement (the work); the ties are given (YtagljlfkpofdnaaGreatDoorTie.lean); close each card by the builder's one call (the guide's Derived/Test/ToyasCard.lean, 'card_holds'). Laid BY PROGRAM, IN A SANDBOX (cutbox-door.mjs). By AI agents, Wed Nov 11 2026. No macro, syntax, notation, axiom, sorry.
-/
import Derived.Test.YtagljlfkpofdnaaGreatDoorRows
import GoSem.ClaimSeven
namespace Go.Proofs.YtagljlfkpofdnaaGreatDoor
namespace Rows

/-- THE TIED CARD OF 'archivumlaw13.SampleCandidates'. -/
def sampleCandidatesCard : Claim7 := { stood := { row := sampleCandidatesRow, standIns := [], harness := (true, "325a8086dddb1e471ff7ae73056f3a52bfb171737a969b94c3a2c973b9a11367"), looks := true }, kinds := [], alts := [], laidByText := true, laidKinds := [.data, .data, .data, .data, .sentinel, .sentinel, .listed, .data, .pinned, .pinned], laidTests := true, laidLooks := .later }
def SampleCandidatesCardSaid : Prop := Claim7.holds Tryz.pinned (.plain (OpenSpec.ofChange sampleCandidatesSpec)) sampleCandidatesCard

/-- THE TIED CARD OF 'archivumlaw13.SampleFits'. -/
def sampleFitsCard : Claim7 := { stood := { row := sampleFitsRow, standIns := [], harness := (true, "325a8086dddb1e471ff7ae73056f3a52bfb171737a969b94c3a2c973b9a11367"), looks := true }, kinds := [], alts := [], laidByText := true, laidKinds := [.data, .data, .data, .data, .sentinel, .sentinel, .listed, .data, .pinned, .pinned], laidTests := true, laidLooks := .later }
def SampleFitsCardSaid : Prop := Claim7.holds Tryz.pinned (.plain (OpenSpec.ofChange sampleFitsSpec)) sampleFitsCard

/-- THE TIED CARD OF 'archivumlaw13.SampleStrata'. -/
def sampleStrataCard : Claim7 := { stood := { row := sampleStrataRow, standIns := [], harness := (true, "325a8086dddb1e471ff7ae73056f3a52bfb171737a969b94c3a2c973b9a11367"), looks := true }, kinds := [], alts := [], laidByText := true, laidKinds := [.data, .data, .data, .data, .sentinel, .sentinel, .listed, .data, .pinned, .pinned], laidTests := true, laidLooks := .later }
def SampleStrataCardSaid : Prop := Claim7.holds Tryz.pinned (.plain (OpenSpec.ofChange sampleStrataSpec)) sampleStrataCard

/-- THE SECOND FORM's CARD OF 'archivumlaw13.SampleCandidates'. -/
def sampleCandidatesUptoCard : Claim7 := { stood := { row := sampleCandidatesUptoRow, standIns := [], harness := (true, "325a8086dddb1e471ff7ae73056f3a52bfb171737a969b94c3a2c973b9a11367"), looks := true }, kinds := [], alts := [], laidByText := true, laidKinds := [.data, .data, .data, .data, .sentinel, .sentinel, .listed, .data, .pinned, .pinned], laidTests := true, laidLooks := .later }
def SampleCandidatesUptoCardSaid : Prop := Claim7.holds Tryz.pinned (.plain (OpenSpec.upto sampleCandidatesSpec)) sampleCandidatesUptoCard

/-- THE SECOND FORM's CARD OF 'archivumlaw13.SampleFits'. -/
def sampleFitsUptoCard : Claim7 := { stood := { row := sampleFitsUptoRow, standIns := [], harness := (true, "325a8086dddb1e471ff7ae73056f3a52bfb171737a969b94c3a2c973b9a11367"), looks := true }, kinds := [], alts := [], laidByText := true, laidKinds := [.data, .data, .data, .data, .sentinel, .sentinel, .listed, .data, .pinned, .pinned], laidTests := true, laidLooks := .later }
def SampleFitsUptoCardSaid : Prop := Claim7.holds Tryz.pinned (.plain (OpenSpec.upto sampleFitsSpec)) sampleFitsUptoCard

/-- THE SECOND FORM's CARD OF 'archivumlaw13.SampleStrata'. -/
def sampleStrataUptoCard : Claim7 := { stood := { row := sampleStrataUptoRow, standIns := [], harness := (true, "325a8086dddb1e471ff7ae73056f3a52bfb171737a969b94c3a2c973b9a11367"), looks := true }, kinds := [], alts := [], laidByText := true, laidKinds := [.data, .data, .data, .data, .sentinel, .sentinel, .listed, .data, .pinned, .pinned], laidTests := true, laidLooks := .later }
def SampleStrataUptoCardSaid : Prop := Claim7.holds Tryz.pinned (.plain (OpenSpec.upto sampleStrataSpec)) sampleStrataUptoCard
end Rows
end Go.Proofs.YtagljlfkpofdnaaGreatDoor
