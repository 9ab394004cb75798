/-
  DERIVED. GIVEN WITH THE SEED: THE CARDS: each row of YtjoeogboieenlaaGreatDoorRows.lean that lists a variable, with what it lists TIED to the program's text (the seventh form; the later family's looks); each row that meets fmt, with fmt's text TOLD by the authors' own Lean function (tested against real Go, not proved from fmt's source: count such statements apart). THE CARD IS WHAT COUNTS. Prove the row's statement (the work); the ties are given (YtjoeogboieenlaaGreatDoorTie.lean); close each card by the builder's one call (the guide's Derived/Test/ToyasCard.lean, 'card_holds'). Laid BY PROGRAM, IN A SANDBOX (cutbox-door.mjs). By AI agents, Wed Nov 11 2026. No macro, syntax, notation, axiom, sorry.
-/
import Derived.Test.YtjoeogboieenlaaGreatDoorRows
import GoSem.ClaimSeven
namespace Go.Proofs.YtjoeogboieenlaaGreatDoor
namespace Rows

/-- THE TIED CARD OF 'overseerlaw46.TimedsynthesisCompletes'. -/
def timedsynthesisCompletesCard : Claim7 := { stood := { row := timedsynthesisCompletesRow, standIns := [], harness := (true, "b02222e58bf3fc95be255e3d0a7cc33a8b320e1cd8ad6ed5a74c4ca75f3e8ff8"), looks := false }, kinds := [], alts := [], laidByText := true, laidKinds := [.data, .data, .data], laidTests := true, laidLooks := .later }
def TimedsynthesisCompletesCardSaid : Prop := Claim7.holds Tryz.pinned (.plain (OpenSpec.ofChange timedsynthesisCompletesSpec)) timedsynthesisCompletesCard

/-- THE TIED CARD OF 'overseerlaw46.TimedsynthesisKeeps'. -/
def timedsynthesisKeepsCard : Claim7 := { stood := { row := timedsynthesisKeepsRow, standIns := [], harness := (true, "b02222e58bf3fc95be255e3d0a7cc33a8b320e1cd8ad6ed5a74c4ca75f3e8ff8"), looks := false }, kinds := [], alts := [], laidByText := true, laidKinds := [.data, .data, .data], laidTests := true, laidLooks := .later }
def TimedsynthesisKeepsCardSaid : Prop := Claim7.holds Tryz.pinned (.plain (OpenSpec.ofChange timedsynthesisKeepsSpec)) timedsynthesisKeepsCard

/-- THE SECOND FORM's CARD OF 'overseerlaw46.TimedsynthesisCompletes'. -/
def timedsynthesisCompletesUptoCard : Claim7 := { stood := { row := timedsynthesisCompletesUptoRow, standIns := [], harness := (true, "b02222e58bf3fc95be255e3d0a7cc33a8b320e1cd8ad6ed5a74c4ca75f3e8ff8"), looks := false }, kinds := [], alts := [], laidByText := true, laidKinds := [.data, .data, .data], laidTests := true, laidLooks := .later }
def TimedsynthesisCompletesUptoCardSaid : Prop := Claim7.holds Tryz.pinned (.plain (OpenSpec.upto timedsynthesisCompletesSpec)) timedsynthesisCompletesUptoCard

/-- THE SECOND FORM's CARD OF 'overseerlaw46.TimedsynthesisKeeps'. -/
def timedsynthesisKeepsUptoCard : Claim7 := { stood := { row := timedsynthesisKeepsUptoRow, standIns := [], harness := (true, "b02222e58bf3fc95be255e3d0a7cc33a8b320e1cd8ad6ed5a74c4ca75f3e8ff8"), looks := false }, kinds := [], alts := [], laidByText := true, laidKinds := [.data, .data, .data], laidTests := true, laidLooks := .later }
def TimedsynthesisKeepsUptoCardSaid : Prop := Claim7.holds Tryz.pinned (.plain (OpenSpec.upto timedsynthesisKeepsSpec)) timedsynthesisKeepsUptoCard
end Rows
end Go.Proofs.YtjoeogboieenlaaGreatDoor
