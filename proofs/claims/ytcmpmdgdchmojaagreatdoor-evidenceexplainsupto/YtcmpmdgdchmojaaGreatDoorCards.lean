/-
  DERIVED. GIVEN WITH THE SEED: THE CARDS: each row of YtcmpmdgdchmojaaGreatDoorRows.lean that lists a variable, with what it lists TIED to the program's text (the seventh form; the later family's looks); each row that meets fmt, with fmt's text TOLD by the authors' own Lean function (tested against real Go, not proved from fmt's source: count such statements apart). THE CARD IS WHAT COUNTS. Prove the row's statement (the work); the ties are given (YtcmpmdgdchmojaaGreatDoorTie.lean); close each card by the builder's one call (the guide's Derived/Test/ToyasCard.lean, 'card_holds'). Laid BY PROGRAM, IN A SANDBOX (cutbox-door.mjs). By AI agents, Wed Nov 11 2026. No macro, syntax, notation, axiom, sorry.
-/
import Derived.Test.YtcmpmdgdchmojaaGreatDoorRows
import GoSem.ClaimSeven
namespace Go.Proofs.YtcmpmdgdchmojaaGreatDoor
namespace Rows

/-- THE TIED CARD OF 'archivumlaw12.EvidenceExplains'. -/
def evidenceExplainsCard : Claim7 := { stood := { row := evidenceExplainsRow, standIns := [], harness := (true, "5a73006b25bd85225d8fcab2fff2a874bab03d9bf6a1cb4ed33f3fdaa7680773"), looks := true }, kinds := [], alts := [], laidByText := true, laidKinds := [.data, .data, .data, .data, .sentinel, .sentinel, .listed, .data, .pinned], laidTests := true, laidLooks := .later }
def EvidenceExplainsCardSaid : Prop := Claim7.holds Tryz.pinned (.plain (OpenSpec.ofChange evidenceExplainsSpec)) evidenceExplainsCard

/-- THE TIED CARD OF 'archivumlaw12.EvidenceFormats'. -/
def evidenceFormatsCard : Claim7 := { stood := { row := evidenceFormatsRow, standIns := [], harness := (true, "5a73006b25bd85225d8fcab2fff2a874bab03d9bf6a1cb4ed33f3fdaa7680773"), looks := true }, kinds := [], alts := [], laidByText := true, laidKinds := [.data, .data, .data, .data, .sentinel, .sentinel, .listed, .data, .pinned], laidTests := true, laidLooks := .later }
def EvidenceFormatsCardSaid : Prop := Claim7.holds Tryz.pinned (.plain (OpenSpec.ofChange evidenceFormatsSpec)) evidenceFormatsCard

/-- THE TIED CARD OF 'archivumlaw12.EvidenceProves'. -/
def evidenceProvesCard : Claim7 := { stood := { row := evidenceProvesRow, standIns := [], harness := (true, "5a73006b25bd85225d8fcab2fff2a874bab03d9bf6a1cb4ed33f3fdaa7680773"), looks := true }, kinds := [], alts := [], laidByText := true, laidKinds := [.data, .data, .data, .data, .sentinel, .sentinel, .listed, .data, .pinned], laidTests := true, laidLooks := .later }
def EvidenceProvesCardSaid : Prop := Claim7.holds Tryz.pinned (.plain (OpenSpec.ofChange evidenceProvesSpec)) evidenceProvesCard

/-- THE TIED CARD OF 'archivumlaw12.EvidenceFacts'. -/
def evidenceFactsCard : Claim7 := { stood := { row := evidenceFactsRow, standIns := [], harness := (true, "5a73006b25bd85225d8fcab2fff2a874bab03d9bf6a1cb4ed33f3fdaa7680773"), looks := true }, kinds := [], alts := [], laidByText := true, laidKinds := [.data, .data, .data, .data, .sentinel, .sentinel, .listed, .data, .pinned], laidTests := true, laidLooks := .later }
def EvidenceFactsCardSaid : Prop := Claim7.holds Tryz.pinned (.plain (OpenSpec.ofChange evidenceFactsSpec)) evidenceFactsCard

/-- THE TIED CARD OF 'archivumlaw12.EvidenceLines'. -/
def evidenceLinesCard : Claim7 := { stood := { row := evidenceLinesRow, standIns := [], harness := (true, "5a73006b25bd85225d8fcab2fff2a874bab03d9bf6a1cb4ed33f3fdaa7680773"), looks := true }, kinds := [], alts := [], laidByText := true, laidKinds := [.data, .data, .data, .data, .sentinel, .sentinel, .listed, .data, .pinned], laidTests := true, laidLooks := .later }
def EvidenceLinesCardSaid : Prop := Claim7.holds Tryz.pinned (.plain (OpenSpec.ofChange evidenceLinesSpec)) evidenceLinesCard

/-- THE TIED CARD OF 'archivumlaw12.EvidenceChecks'. -/
def evidenceChecksCard : Claim7 := { stood := { row := evidenceChecksRow, standIns := [], harness := (true, "5a73006b25bd85225d8fcab2fff2a874bab03d9bf6a1cb4ed33f3fdaa7680773"), looks := true }, kinds := [], alts := [], laidByText := true, laidKinds := [.data, .data, .data, .data, .sentinel, .sentinel, .listed, .data, .pinned], laidTests := true, laidLooks := .later }
def EvidenceChecksCardSaid : Prop := Claim7.holds Tryz.pinned (.plain (OpenSpec.ofChange evidenceChecksSpec)) evidenceChecksCard

/-- THE TIED CARD OF 'archivumlaw12.EvidenceOnly'. -/
def evidenceOnlyCard : Claim7 := { stood := { row := evidenceOnlyRow, standIns := [], harness := (true, "5a73006b25bd85225d8fcab2fff2a874bab03d9bf6a1cb4ed33f3fdaa7680773"), looks := true }, kinds := [], alts := [], laidByText := true, laidKinds := [.data, .data, .data, .data, .sentinel, .sentinel, .listed, .data, .pinned], laidTests := true, laidLooks := .later }
def EvidenceOnlyCardSaid : Prop := Claim7.holds Tryz.pinned (.plain (OpenSpec.ofChange evidenceOnlySpec)) evidenceOnlyCard

/-- THE SECOND FORM's CARD OF 'archivumlaw12.EvidenceExplains'. -/
def evidenceExplainsUptoCard : Claim7 := { stood := { row := evidenceExplainsUptoRow, standIns := [], harness := (true, "5a73006b25bd85225d8fcab2fff2a874bab03d9bf6a1cb4ed33f3fdaa7680773"), looks := true }, kinds := [], alts := [], laidByText := true, laidKinds := [.data, .data, .data, .data, .sentinel, .sentinel, .listed, .data, .pinned], laidTests := true, laidLooks := .later }
def EvidenceExplainsUptoCardSaid : Prop := Claim7.holds Tryz.pinned (.plain (OpenSpec.upto evidenceExplainsSpec)) evidenceExplainsUptoCard

/-- THE SECOND FORM's CARD OF 'archivumlaw12.EvidenceFormats'. -/
def evidenceFormatsUptoCard : Claim7 := { stood := { row := evidenceFormatsUptoRow, standIns := [], harness := (true, "5a73006b25bd85225d8fcab2fff2a874bab03d9bf6a1cb4ed33f3fdaa7680773"), looks := true }, kinds := [], alts := [], laidByText := true, laidKinds := [.data, .data, .data, .data, .sentinel, .sentinel, .listed, .data, .pinned], laidTests := true, laidLooks := .later }
def EvidenceFormatsUptoCardSaid : Prop := Claim7.holds Tryz.pinned (.plain (OpenSpec.upto evidenceFormatsSpec)) evidenceFormatsUptoCard

/-- THE SECOND FORM's CARD OF 'archivumlaw12.EvidenceProves'. -/
def evidenceProvesUptoCard : Claim7 := { stood := { row := evidenceProvesUptoRow, standIns := [], harness := (true, "5a73006b25bd85225d8fcab2fff2a874bab03d9bf6a1cb4ed33f3fdaa7680773"), looks := true }, kinds := [], alts := [], laidByText := true, laidKinds := [.data, .data, .data, .data, .sentinel, .sentinel, .listed, .data, .pinned], laidTests := true, laidLooks := .later }
def EvidenceProvesUptoCardSaid : Prop := Claim7.holds Tryz.pinned (.plain (OpenSpec.upto evidenceProvesSpec)) evidenceProvesUptoCard

/-- THE SECOND FORM's CARD OF 'archivumlaw12.EvidenceFacts'. -/
def evidenceFactsUptoCard : Claim7 := { stood := { row := evidenceFactsUptoRow, standIns := [], harness := (true, "5a73006b25bd85225d8fcab2fff2a874bab03d9bf6a1cb4ed33f3fdaa7680773"), looks := true }, kinds := [], alts := [], laidByText := true, laidKinds := [.data, .data, .data, .data, .sentinel, .sentinel, .listed, .data, .pinned], laidTests := true, laidLooks := .later }
def EvidenceFactsUptoCardSaid : Prop := Claim7.holds Tryz.pinned (.plain (OpenSpec.upto evidenceFactsSpec)) evidenceFactsUptoCard

/-- THE SECOND FORM's CARD OF 'archivumlaw12.EvidenceLines'. -/
def evidenceLinesUptoCard : Claim7 := { stood := { row := evidenceLinesUptoRow, standIns := [], harness := (true, "5a73006b25bd85225d8fcab2fff2a874bab03d9bf6a1cb4ed33f3fdaa7680773"), looks := true }, kinds := [], alts := [], laidByText := true, laidKinds := [.data, .data, .data, .data, .sentinel, .sentinel, .listed, .data, .pinned], laidTests := true, laidLooks := .later }
def EvidenceLinesUptoCardSaid : Prop := Claim7.holds Tryz.pinned (.plain (OpenSpec.upto evidenceLinesSpec)) evidenceLinesUptoCard

/-- THE SECOND FORM's CARD OF 'archivumlaw12.EvidenceChecks'. -/
def evidenceChecksUptoCard : Claim7 := { stood := { row := evidenceChecksUptoRow, standIns := [], harness := (true, "5a73006b25bd85225d8fcab2fff2a874bab03d9bf6a1cb4ed33f3fdaa7680773"), looks := true }, kinds := [], alts := [], laidByText := true, laidKinds := [.data, .data, .data, .data, .sentinel, .sentinel, .listed, .data, .pinned], laidTests := true, laidLooks := .later }
def EvidenceChecksUptoCardSaid : Prop := Claim7.holds Tryz.pinned (.plain (OpenSpec.upto evidenceChecksSpec)) evidenceChecksUptoCard

/-- THE SECOND FORM's CARD OF 'archivumlaw12.EvidenceOnly'. -/
def evidenceOnlyUptoCard : Claim7 := { stood := { row := evidenceOnlyUptoRow, standIns := [], harness := (true, "5a73006b25bd85225d8fcab2fff2a874bab03d9bf6a1cb4ed33f3fdaa7680773"), looks := true }, kinds := [], alts := [], laidByText := true, laidKinds := [.data, .data, .data, .data, .sentinel, .sentinel, .listed, .data, .pinned], laidTests := true, laidLooks := .later }
def EvidenceOnlyUptoCardSaid : Prop := Claim7.holds Tryz.pinned (.plain (OpenSpec.upto evidenceOnlySpec)) evidenceOnlyUptoCard
end Rows
end Go.Proofs.YtcmpmdgdchmojaaGreatDoor
