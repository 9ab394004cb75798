/-
  DERIVED. GIVEN WITH THE SEED: THE CARDS: each row of YtibbnipiaajdhaaGreatDoorRows.lean that lists a variable, with what it lists TIED to the program's text (the seventh form; the later family's looks); each row that meets fmt, with fmt's text TOLD by the authors' own Lean function (tested against real Go, not proved from fmt's source: count such statements apart). THE CARD IS WHAT COUNTS. Prove the row's statement (the work); the ties are given (YtibbnipiaajdhaaGreatDoorTie.lean); close each card by the builder's one call (the guide's Derived/Test/ToyasCard.lean, 'card_holds'). Laid BY PROGRAM, IN A SANDBOX (cutbox-door.mjs). By AI agents, Wed Nov 11 2026. No macro, syntax, notation, axiom, sorry.
-/
import Derived.Test.YtibbnipiaajdhaaGreatDoorRows
import GoSem.ClaimSeven
namespace Go.Proofs.YtibbnipiaajdhaaGreatDoor
namespace Rows

/-- THE TIED CARD OF 'overseerlaw21.RequirementJoins'. -/
def requirementJoinsCard : Claim7 := { stood := { row := requirementJoinsRow, standIns := [], harness := (true, "13c325971da0a5a0f149be8028799ce11b3b3184d31593a8e8a8974221491338"), looks := false }, kinds := [], alts := [], laidByText := true, laidKinds := [.data, .data, .data], laidTests := true, laidLooks := .later }
def RequirementJoinsCardSaid : Prop := Claim7.holds Tryz.pinned (.plain (OpenSpec.ofChange requirementJoinsSpec)) requirementJoinsCard

/-- THE SECOND FORM's CARD OF 'overseerlaw21.RequirementJoins'. -/
def requirementJoinsUptoCard : Claim7 := { stood := { row := requirementJoinsUptoRow, standIns := [], harness := (true, "13c325971da0a5a0f149be8028799ce11b3b3184d31593a8e8a8974221491338"), looks := false }, kinds := [], alts := [], laidByText := true, laidKinds := [.data, .data, .data], laidTests := true, laidLooks := .later }
def RequirementJoinsUptoCardSaid : Prop := Claim7.holds Tryz.pinned (.plain (OpenSpec.upto requirementJoinsSpec)) requirementJoinsUptoCard
end Rows
end Go.Proofs.YtibbnipiaajdhaaGreatDoor
