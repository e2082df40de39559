/-
  DERIVED. GIVEN WITH THE SEED: THE CARDS: each row of YtfbbflhnhmphiaaGreatDoorRows.lean that lists a variable, with what it lists TIED to the program's text (the seventh form; the later family's looks); each row that meets fmt, with fmt's text TOLD by the authors' own Lean function (tested against real Go, not proved from fmt's source: count such statements apart). THE CARD IS WHAT COUNTS. Prove the row's statement (the work); the ties are given (YtfbbflhnhmphiaaGreatDoorTie.lean); close each card by the builder's one call (the guide's Derived/Test/ToyasCard.lean, 'card_holds'). Laid BY PROGRAM, IN A SANDBOX (cutbox-door.mjs). By AI agents, Wed Nov 11 2026. No macro, syntax, notation, axiom, sorry.
-/
import Derived.Test.YtfbbflhnhmphiaaGreatDoorRows
import GoSem.ClaimSeven
namespace Go.Proofs.YtfbbflhnhmphiaaGreatDoor
namespace Rows

/-- THE TIED CARD OF 'archivumlaw15.RegistryKeeps'. -/
def registryKeepsCard : Claim7 := { stood := { row := registryKeepsRow, standIns := [], harness := (true, "6417717c288422f9b19263a7ef04df48e8d8d68866a7bf17638604a513506104"), looks := true }, kinds := [], alts := [], laidByText := true, laidKinds := [.data, .pinned, .data, .listed, .sentinel, .sentinel, .data, .data, .data, .pinned], laidTests := true, laidLooks := .later }
def RegistryKeepsCardSaid : Prop := Claim7.holds Tryz.pinned (.plain (OpenSpec.ofChange registryKeepsSpec)) registryKeepsCard

/-- THE TIED CARD OF 'archivumlaw15.RegistryPast'. -/
def registryPastCard : Claim7 := { stood := { row := registryPastRow, standIns := [], harness := (true, "6417717c288422f9b19263a7ef04df48e8d8d68866a7bf17638604a513506104"), looks := true }, kinds := [], alts := [], laidByText := true, laidKinds := [.data, .pinned, .data, .listed, .sentinel, .sentinel, .data, .data, .data, .pinned], laidTests := true, laidLooks := .later }
def RegistryPastCardSaid : Prop := Claim7.holds Tryz.pinned (.plain (OpenSpec.ofChange registryPastSpec)) registryPastCard

/-- THE TIED CARD OF 'archivumlaw15.RegistryParts'. -/
def registryPartsCard : Claim7 := { stood := { row := registryPartsRow, standIns := [], harness := (true, "6417717c288422f9b19263a7ef04df48e8d8d68866a7bf17638604a513506104"), looks := true }, kinds := [], alts := [], laidByText := true, laidKinds := [.data, .pinned, .data, .listed, .sentinel, .sentinel, .data, .data, .data, .pinned], laidTests := true, laidLooks := .later }
def RegistryPartsCardSaid : Prop := Claim7.holds Tryz.pinned (.plain (OpenSpec.ofChange registryPartsSpec)) registryPartsCard

/-- THE TIED CARD OF 'archivumlaw15.RegistryLawful'. -/
def registryLawfulCard : Claim7 := { stood := { row := registryLawfulRow, standIns := [], harness := (true, "6417717c288422f9b19263a7ef04df48e8d8d68866a7bf17638604a513506104"), looks := true }, kinds := [], alts := [], laidByText := true, laidKinds := [.data, .pinned, .data, .listed, .sentinel, .sentinel, .data, .data, .data, .pinned], laidTests := true, laidLooks := .later }
def RegistryLawfulCardSaid : Prop := Claim7.holds Tryz.pinned (.plain (OpenSpec.ofChange registryLawfulSpec)) registryLawfulCard

/-- THE SECOND FORM's CARD OF 'archivumlaw15.RegistryKeeps'. -/
def registryKeepsUptoCard : Claim7 := { stood := { row := registryKeepsUptoRow, standIns := [], harness := (true, "6417717c288422f9b19263a7ef04df48e8d8d68866a7bf17638604a513506104"), looks := true }, kinds := [], alts := [], laidByText := true, laidKinds := [.data, .pinned, .data, .listed, .sentinel, .sentinel, .data, .data, .data, .pinned], laidTests := true, laidLooks := .later }
def RegistryKeepsUptoCardSaid : Prop := Claim7.holds Tryz.pinned (.plain (OpenSpec.upto registryKeepsSpec)) registryKeepsUptoCard

/-- THE SECOND FORM's CARD OF 'archivumlaw15.RegistryPast'. -/
def registryPastUptoCard : Claim7 := { stood := { row := registryPastUptoRow, standIns := [], harness := (true, "6417717c288422f9b19263a7ef04df48e8d8d68866a7bf17638604a513506104"), looks := true }, kinds := [], alts := [], laidByText := true, laidKinds := [.data, .pinned, .data, .listed, .sentinel, .sentinel, .data, .data, .data, .pinned], laidTests := true, laidLooks := .later }
def RegistryPastUptoCardSaid : Prop := Claim7.holds Tryz.pinned (.plain (OpenSpec.upto registryPastSpec)) registryPastUptoCard

/-- THE SECOND FORM's CARD OF 'archivumlaw15.RegistryParts'. -/
def registryPartsUptoCard : Claim7 := { stood := { row := registryPartsUptoRow, standIns := [], harness := (true, "6417717c288422f9b19263a7ef04df48e8d8d68866a7bf17638604a513506104"), looks := true }, kinds := [], alts := [], laidByText := true, laidKinds := [.data, .pinned, .data, .listed, .sentinel, .sentinel, .data, .data, .data, .pinned], laidTests := true, laidLooks := .later }
def RegistryPartsUptoCardSaid : Prop := Claim7.holds Tryz.pinned (.plain (OpenSpec.upto registryPartsSpec)) registryPartsUptoCard

/-- THE SECOND FORM's CARD OF 'archivumlaw15.RegistryLawful'. -/
def registryLawfulUptoCard : Claim7 := { stood := { row := registryLawfulUptoRow, standIns := [], harness := (true, "6417717c288422f9b19263a7ef04df48e8d8d68866a7bf17638604a513506104"), looks := true }, kinds := [], alts := [], laidByText := true, laidKinds := [.data, .pinned, .data, .listed, .sentinel, .sentinel, .data, .data, .data, .pinned], laidTests := true, laidLooks := .later }
def RegistryLawfulUptoCardSaid : Prop := Claim7.holds Tryz.pinned (.plain (OpenSpec.upto registryLawfulSpec)) registryLawfulUptoCard
end Rows
end Go.Proofs.YtfbbflhnhmphiaaGreatDoor
