/-
  DERIVED. GIVEN WITH THE SEED: THE CARDS: each row of YtccapdeoaoiieaaGreatDoorRows.lean that lists a variable, with what it lists TIED to the program's text (the seventh form; the later family's looks); each row that meets fmt, with fmt's text TOLD by the authors' own Lean function (tested against real Go, not proved from fmt's source: count such statements apart). THE CARD IS WHAT COUNTS. Prove the row's statement (the work); the ties are given (YtccapdeoaoiieaaGreatDoorTie.lean); close each card by the builder's one call (the guide's Derived/Test/ToyasCard.lean, 'card_holds'). Laid BY PROGRAM, IN A SANDBOX (cutbox-door.mjs). By AI agents, Wed Nov 11 2026. No macro, syntax, notation, axiom, sorry.
-/
import Derived.Test.YtccapdeoaoiieaaGreatDoorRows
import GoSem.ClaimSeven
namespace Go.Proofs.YtccapdeoaoiieaaGreatDoor
namespace Rows

/-- THE TIED CARD OF 'overseerlaw43.DegradedPermits'. -/
def degradedPermitsCard : Claim7 := { stood := { row := degradedPermitsRow, standIns := [], harness := (true, "551c08c93a0fed682274bcc859ae8f6befa5d6fa3e5afe23c69fdf25400490fc"), looks := false }, kinds := [], alts := [], laidByText := true, laidKinds := [.data, .data, .data], laidTests := true, laidLooks := .later }
def DegradedPermitsCardSaid : Prop := Claim7.holds Tryz.pinned (.plain (OpenSpec.ofChange degradedPermitsSpec)) degradedPermitsCard

/-- THE TIED CARD OF 'overseerlaw43.DegradedSwitches'. -/
def degradedSwitchesCard : Claim7 := { stood := { row := degradedSwitchesRow, standIns := [], harness := (true, "551c08c93a0fed682274bcc859ae8f6befa5d6fa3e5afe23c69fdf25400490fc"), looks := false }, kinds := [], alts := [], laidByText := true, laidKinds := [.data, .data, .data], laidTests := true, laidLooks := .later }
def DegradedSwitchesCardSaid : Prop := Claim7.holds Tryz.pinned (.plain (OpenSpec.ofChange degradedSwitchesSpec)) degradedSwitchesCard

/-- THE TIED CARD OF 'overseerlaw43.DegradedFaultless'. -/
def degradedFaultlessCard : Claim7 := { stood := { row := degradedFaultlessRow, standIns := [], harness := (true, "551c08c93a0fed682274bcc859ae8f6befa5d6fa3e5afe23c69fdf25400490fc"), looks := false }, kinds := [], alts := [], laidByText := true, laidKinds := [.data, .data, .data], laidTests := true, laidLooks := .later }
def DegradedFaultlessCardSaid : Prop := Claim7.holds Tryz.pinned (.plain (OpenSpec.ofChange degradedFaultlessSpec)) degradedFaultlessCard

/-- THE TIED CARD OF 'overseerlaw43.DegradedKeeps'. -/
def degradedKeepsCard : Claim7 := { stood := { row := degradedKeepsRow, standIns := [], harness := (true, "551c08c93a0fed682274bcc859ae8f6befa5d6fa3e5afe23c69fdf25400490fc"), looks := false }, kinds := [], alts := [], laidByText := true, laidKinds := [.data, .data, .data], laidTests := true, laidLooks := .later }
def DegradedKeepsCardSaid : Prop := Claim7.holds Tryz.pinned (.plain (OpenSpec.ofChange degradedKeepsSpec)) degradedKeepsCard

/-- THE TIED CARD OF 'overseerlaw43.DegradedChecks'. -/
def degradedChecksCard : Claim7 := { stood := { row := degradedChecksRow, standIns := [], harness := (true, "551c08c93a0fed682274bcc859ae8f6befa5d6fa3e5afe23c69fdf25400490fc"), looks := false }, kinds := [], alts := [], laidByText := true, laidKinds := [.data, .data, .data], laidTests := true, laidLooks := .later }
def DegradedChecksCardSaid : Prop := Claim7.holds Tryz.pinned (.plain (OpenSpec.ofChange degradedChecksSpec)) degradedChecksCard

/-- THE SECOND FORM's CARD OF 'overseerlaw43.DegradedPermits'. -/
def degradedPermitsUptoCard : Claim7 := { stood := { row := degradedPermitsUptoRow, standIns := [], harness := (true, "551c08c93a0fed682274bcc859ae8f6befa5d6fa3e5afe23c69fdf25400490fc"), looks := false }, kinds := [], alts := [], laidByText := true, laidKinds := [.data, .data, .data], laidTests := true, laidLooks := .later }
def DegradedPermitsUptoCardSaid : Prop := Claim7.holds Tryz.pinned (.plain (OpenSpec.upto degradedPermitsSpec)) degradedPermitsUptoCard

/-- THE SECOND FORM's CARD OF 'overseerlaw43.DegradedSwitches'. -/
def degradedSwitchesUptoCard : Claim7 := { stood := { row := degradedSwitchesUptoRow, standIns := [], harness := (true, "551c08c93a0fed682274bcc859ae8f6befa5d6fa3e5afe23c69fdf25400490fc"), looks := false }, kinds := [], alts := [], laidByText := true, laidKinds := [.data, .data, .data], laidTests := true, laidLooks := .later }
def DegradedSwitchesUptoCardSaid : Prop := Claim7.holds Tryz.pinned (.plain (OpenSpec.upto degradedSwitchesSpec)) degradedSwitchesUptoCard

/-- THE SECOND FORM's CARD OF 'overseerlaw43.DegradedFaultless'. -/
def degradedFaultlessUptoCard : Claim7 := { stood := { row := degradedFaultlessUptoRow, standIns := [], harness := (true, "551c08c93a0fed682274bcc859ae8f6befa5d6fa3e5afe23c69fdf25400490fc"), looks := false }, kinds := [], alts := [], laidByText := true, laidKinds := [.data, .data, .data], laidTests := true, laidLooks := .later }
def DegradedFaultlessUptoCardSaid : Prop := Claim7.holds Tryz.pinned (.plain (OpenSpec.upto degradedFaultlessSpec)) degradedFaultlessUptoCard

/-- THE SECOND FORM's CARD OF 'overseerlaw43.DegradedKeeps'. -/
def degradedKeepsUptoCard : Claim7 := { stood := { row := degradedKeepsUptoRow, standIns := [], harness := (true, "551c08c93a0fed682274bcc859ae8f6befa5d6fa3e5afe23c69fdf25400490fc"), looks := false }, kinds := [], alts := [], laidByText := true, laidKinds := [.data, .data, .data], laidTests := true, laidLooks := .later }
def DegradedKeepsUptoCardSaid : Prop := Claim7.holds Tryz.pinned (.plain (OpenSpec.upto degradedKeepsSpec)) degradedKeepsUptoCard

/-- THE SECOND FORM's CARD OF 'overseerlaw43.DegradedChecks'. -/
def degradedChecksUptoCard : Claim7 := { stood := { row := degradedChecksUptoRow, standIns := [], harness := (true, "551c08c93a0fed682274bcc859ae8f6befa5d6fa3e5afe23c69fdf25400490fc"), looks := false }, kinds := [], alts := [], laidByText := true, laidKinds := [.data, .data, .data], laidTests := true, laidLooks := .later }
def DegradedChecksUptoCardSaid : Prop := Claim7.holds Tryz.pinned (.plain (OpenSpec.upto degradedChecksSpec)) degradedChecksUptoCard
end Rows
end Go.Proofs.YtccapdeoaoiieaaGreatDoor
