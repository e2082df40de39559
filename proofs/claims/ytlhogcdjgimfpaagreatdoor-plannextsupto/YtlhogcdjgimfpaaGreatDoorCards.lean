/-
  DERIVED. GIVEN WITH THE SEED: THE CARDS: each row of YtlhogcdjgimfpaaGreatDoorRows.lean that lists a variable, with what it lists TIED to the program's text (the seventh form; the later family's looks); each row that meets fmt, with fmt's text TOLD by the authors' own Lean function (tested against real Go, not proved from fmt's source: count such statements apart). THE CARD IS WHAT COUNTS. Prove the row's statement (the work); the ties are given (YtlhogcdjgimfpaaGreatDoorTie.lean); close each card by the builder's one call (the guide's Derived/Test/ToyasCard.lean, 'card_holds'). Laid BY PROGRAM, IN A SANDBOX (cutbox-door.mjs). By AI agents, Wed Nov 11 2026. No macro, syntax, notation, axiom, sorry.
-/
import Derived.Test.YtlhogcdjgimfpaaGreatDoorRows
import GoSem.ClaimSeven
namespace Go.Proofs.YtlhogcdjgimfpaaGreatDoor
namespace Rows

/-- THE TIED CARD OF 'archivumlaw07.PlanChecks'. -/
def planChecksCard : Claim7 := { stood := { row := planChecksRow, standIns := [], harness := (true, "a17bcb837e94360bc0abdde24a63da801c367aebc454a5e0cb5d4e00c2686335"), looks := true }, kinds := [], alts := [], laidByText := true, laidKinds := [.data, .data, .data, .data, .sentinel, .sentinel, .listed, .data, .pinned], laidTests := true, laidLooks := .later }
def PlanChecksCardSaid : Prop := Claim7.holds Tryz.pinned (.plain (OpenSpec.ofChange planChecksSpec)) planChecksCard

/-- THE TIED CARD OF 'archivumlaw07.PlanFollows'. -/
def planFollowsCard : Claim7 := { stood := { row := planFollowsRow, standIns := [], harness := (true, "a17bcb837e94360bc0abdde24a63da801c367aebc454a5e0cb5d4e00c2686335"), looks := true }, kinds := [], alts := [], laidByText := true, laidKinds := [.data, .data, .data, .data, .sentinel, .sentinel, .listed, .data, .pinned], laidTests := true, laidLooks := .later }
def PlanFollowsCardSaid : Prop := Claim7.holds Tryz.pinned (.plain (OpenSpec.ofChange planFollowsSpec)) planFollowsCard

/-- THE TIED CARD OF 'archivumlaw07.PlanThrough'. -/
def planThroughCard : Claim7 := { stood := { row := planThroughRow, standIns := [], harness := (true, "a17bcb837e94360bc0abdde24a63da801c367aebc454a5e0cb5d4e00c2686335"), looks := true }, kinds := [], alts := [], laidByText := true, laidKinds := [.data, .data, .data, .data, .sentinel, .sentinel, .listed, .data, .pinned], laidTests := true, laidLooks := .later }
def PlanThroughCardSaid : Prop := Claim7.holds Tryz.pinned (.plain (OpenSpec.ofChange planThroughSpec)) planThroughCard

/-- THE TIED CARD OF 'archivumlaw07.PlanOnce'. -/
def planOnceCard : Claim7 := { stood := { row := planOnceRow, standIns := [], harness := (true, "a17bcb837e94360bc0abdde24a63da801c367aebc454a5e0cb5d4e00c2686335"), looks := true }, kinds := [], alts := [], laidByText := true, laidKinds := [.data, .data, .data, .data, .sentinel, .sentinel, .listed, .data, .pinned], laidTests := true, laidLooks := .later }
def PlanOnceCardSaid : Prop := Claim7.holds Tryz.pinned (.plain (OpenSpec.ofChange planOnceSpec)) planOnceCard

/-- THE TIED CARD OF 'archivumlaw07.PlanKeeps'. -/
def planKeepsCard : Claim7 := { stood := { row := planKeepsRow, standIns := [], harness := (true, "a17bcb837e94360bc0abdde24a63da801c367aebc454a5e0cb5d4e00c2686335"), looks := true }, kinds := [], alts := [], laidByText := true, laidKinds := [.data, .data, .data, .data, .sentinel, .sentinel, .listed, .data, .pinned], laidTests := true, laidLooks := .later }
def PlanKeepsCardSaid : Prop := Claim7.holds Tryz.pinned (.plain (OpenSpec.ofChange planKeepsSpec)) planKeepsCard

/-- THE TIED CARD OF 'archivumlaw07.PlanTime'. -/
def planTimeCard : Claim7 := { stood := { row := planTimeRow, standIns := [], harness := (true, "a17bcb837e94360bc0abdde24a63da801c367aebc454a5e0cb5d4e00c2686335"), looks := true }, kinds := [], alts := [], laidByText := true, laidKinds := [.data, .data, .data, .data, .sentinel, .sentinel, .listed, .data, .pinned], laidTests := true, laidLooks := .later }
def PlanTimeCardSaid : Prop := Claim7.holds Tryz.pinned (.plain (OpenSpec.ofChange planTimeSpec)) planTimeCard

/-- THE TIED CARD OF 'archivumlaw07.PlanNexts'. -/
def planNextsCard : Claim7 := { stood := { row := planNextsRow, standIns := [], harness := (true, "a17bcb837e94360bc0abdde24a63da801c367aebc454a5e0cb5d4e00c2686335"), looks := true }, kinds := [], alts := [], laidByText := true, laidKinds := [.data, .data, .data, .data, .sentinel, .sentinel, .listed, .data, .pinned], laidTests := true, laidLooks := .later }
def PlanNextsCardSaid : Prop := Claim7.holds Tryz.pinned (.plain (OpenSpec.ofChange planNextsSpec)) planNextsCard

/-- THE SECOND FORM's CARD OF 'archivumlaw07.PlanChecks'. -/
def planChecksUptoCard : Claim7 := { stood := { row := planChecksUptoRow, standIns := [], harness := (true, "a17bcb837e94360bc0abdde24a63da801c367aebc454a5e0cb5d4e00c2686335"), looks := true }, kinds := [], alts := [], laidByText := true, laidKinds := [.data, .data, .data, .data, .sentinel, .sentinel, .listed, .data, .pinned], laidTests := true, laidLooks := .later }
def PlanChecksUptoCardSaid : Prop := Claim7.holds Tryz.pinned (.plain (OpenSpec.upto planChecksSpec)) planChecksUptoCard

/-- THE SECOND FORM's CARD OF 'archivumlaw07.PlanFollows'. -/
def planFollowsUptoCard : Claim7 := { stood := { row := planFollowsUptoRow, standIns := [], harness := (true, "a17bcb837e94360bc0abdde24a63da801c367aebc454a5e0cb5d4e00c2686335"), looks := true }, kinds := [], alts := [], laidByText := true, laidKinds := [.data, .data, .data, .data, .sentinel, .sentinel, .listed, .data, .pinned], laidTests := true, laidLooks := .later }
def PlanFollowsUptoCardSaid : Prop := Claim7.holds Tryz.pinned (.plain (OpenSpec.upto planFollowsSpec)) planFollowsUptoCard

/-- THE SECOND FORM's CARD OF 'archivumlaw07.PlanThrough'. -/
def planThroughUptoCard : Claim7 := { stood := { row := planThroughUptoRow, standIns := [], harness := (true, "a17bcb837e94360bc0abdde24a63da801c367aebc454a5e0cb5d4e00c2686335"), looks := true }, kinds := [], alts := [], laidByText := true, laidKinds := [.data, .data, .data, .data, .sentinel, .sentinel, .listed, .data, .pinned], laidTests := true, laidLooks := .later }
def PlanThroughUptoCardSaid : Prop := Claim7.holds Tryz.pinned (.plain (OpenSpec.upto planThroughSpec)) planThroughUptoCard

/-- THE SECOND FORM's CARD OF 'archivumlaw07.PlanOnce'. -/
def planOnceUptoCard : Claim7 := { stood := { row := planOnceUptoRow, standIns := [], harness := (true, "a17bcb837e94360bc0abdde24a63da801c367aebc454a5e0cb5d4e00c2686335"), looks := true }, kinds := [], alts := [], laidByText := true, laidKinds := [.data, .data, .data, .data, .sentinel, .sentinel, .listed, .data, .pinned], laidTests := true, laidLooks := .later }
def PlanOnceUptoCardSaid : Prop := Claim7.holds Tryz.pinned (.plain (OpenSpec.upto planOnceSpec)) planOnceUptoCard

/-- THE SECOND FORM's CARD OF 'archivumlaw07.PlanKeeps'. -/
def planKeepsUptoCard : Claim7 := { stood := { row := planKeepsUptoRow, standIns := [], harness := (true, "a17bcb837e94360bc0abdde24a63da801c367aebc454a5e0cb5d4e00c2686335"), looks := true }, kinds := [], alts := [], laidByText := true, laidKinds := [.data, .data, .data, .data, .sentinel, .sentinel, .listed, .data, .pinned], laidTests := true, laidLooks := .later }
def PlanKeepsUptoCardSaid : Prop := Claim7.holds Tryz.pinned (.plain (OpenSpec.upto planKeepsSpec)) planKeepsUptoCard

/-- THE SECOND FORM's CARD OF 'archivumlaw07.PlanTime'. -/
def planTimeUptoCard : Claim7 := { stood := { row := planTimeUptoRow, standIns := [], harness := (true, "a17bcb837e94360bc0abdde24a63da801c367aebc454a5e0cb5d4e00c2686335"), looks := true }, kinds := [], alts := [], laidByText := true, laidKinds := [.data, .data, .data, .data, .sentinel, .sentinel, .listed, .data, .pinned], laidTests := true, laidLooks := .later }
def PlanTimeUptoCardSaid : Prop := Claim7.holds Tryz.pinned (.plain (OpenSpec.upto planTimeSpec)) planTimeUptoCard

/-- THE SECOND FORM's CARD OF 'archivumlaw07.PlanNexts'. -/
def planNextsUptoCard : Claim7 := { stood := { row := planNextsUptoRow, standIns := [], harness := (true, "a17bcb837e94360bc0abdde24a63da801c367aebc454a5e0cb5d4e00c2686335"), looks := true }, kinds := [], alts := [], laidByText := true, laidKinds := [.data, .data, .data, .data, .sentinel, .sentinel, .listed, .data, .pinned], laidTests := true, laidLooks := .later }
def PlanNextsUptoCardSaid : Prop := Claim7.holds Tryz.pinned (.plain (OpenSpec.upto planNextsSpec)) planNextsUptoCard
end Rows
end Go.Proofs.YtlhogcdjgimfpaaGreatDoor
