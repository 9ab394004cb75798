/-
  DERIVED. GIVEN WITH THE SEED: THE CARDS: each row of YtdckcingoapofaaGreatDoorRows.lean that lists a variable, with what it lists TIED to the program's text (the seventh form; the later family's looks); each row that meets fmt, with fmt's text TOLD by the authors' own Lean function (tested against real Go, not proved from fmt's source: count such statements apart). THE CARD IS WHAT COUNTS. Prove the row's statement (the work); the ties are given (YtdckcingoapofaaGreatDoorTie.lean); close each card by the builder's one call (the guide's Derived/Test/ToyasCard.lean, 'card_holds'). Laid BY PROGRAM, IN A SANDBOX (cutbox-door.mjs). By AI agents, Wed Nov 11 2026. No macro, syntax, notation, axiom, sorry.
-/
import Derived.Test.YtdckcingoapofaaGreatDoorRows
import GoSem.ClaimSeven
namespace Go.Proofs.YtdckcingoapofaaGreatDoor
namespace Rows

/-- THE TIED CARD OF 'overseerlaw39.RelativeLanguages'. -/
def relativeLanguagesCard : Claim7 := { stood := { row := relativeLanguagesRow, standIns := [], harness := (true, "6e69ebb42269e437bb2d9699e2d5bb709277eef49df4398832319d516b08c18c"), looks := false }, kinds := [], alts := [], laidByText := true, laidKinds := [.data, .data, .data], laidTests := true, laidLooks := .later }
def RelativeLanguagesCardSaid : Prop := Claim7.holds Tryz.pinned (.plain (OpenSpec.ofChange relativeLanguagesSpec)) relativeLanguagesCard

/-- THE TIED CARD OF 'overseerlaw39.RelativeChecks'. -/
def relativeChecksCard : Claim7 := { stood := { row := relativeChecksRow, standIns := [], harness := (true, "6e69ebb42269e437bb2d9699e2d5bb709277eef49df4398832319d516b08c18c"), looks := false }, kinds := [], alts := [], laidByText := true, laidKinds := [.data, .data, .data], laidTests := true, laidLooks := .later }
def RelativeChecksCardSaid : Prop := Claim7.holds Tryz.pinned (.plain (OpenSpec.ofChange relativeChecksSpec)) relativeChecksCard

/-- THE TIED CARD OF 'overseerlaw39.RelativeRefutes'. -/
def relativeRefutesCard : Claim7 := { stood := { row := relativeRefutesRow, standIns := [], harness := (true, "6e69ebb42269e437bb2d9699e2d5bb709277eef49df4398832319d516b08c18c"), looks := false }, kinds := [], alts := [], laidByText := true, laidKinds := [.data, .data, .data], laidTests := true, laidLooks := .later }
def RelativeRefutesCardSaid : Prop := Claim7.holds Tryz.pinned (.plain (OpenSpec.ofChange relativeRefutesSpec)) relativeRefutesCard

/-- THE TIED CARD OF 'overseerlaw39.RelativeHolds'. -/
def relativeHoldsCard : Claim7 := { stood := { row := relativeHoldsRow, standIns := [], harness := (true, "6e69ebb42269e437bb2d9699e2d5bb709277eef49df4398832319d516b08c18c"), looks := false }, kinds := [], alts := [], laidByText := true, laidKinds := [.data, .data, .data], laidTests := true, laidLooks := .later }
def RelativeHoldsCardSaid : Prop := Claim7.holds Tryz.pinned (.plain (OpenSpec.ofChange relativeHoldsSpec)) relativeHoldsCard

/-- THE TIED CARD OF 'overseerlaw39.RelativeOnce'. -/
def relativeOnceCard : Claim7 := { stood := { row := relativeOnceRow, standIns := [], harness := (true, "6e69ebb42269e437bb2d9699e2d5bb709277eef49df4398832319d516b08c18c"), looks := false }, kinds := [], alts := [], laidByText := true, laidKinds := [.data, .data, .data], laidTests := true, laidLooks := .later }
def RelativeOnceCardSaid : Prop := Claim7.holds Tryz.pinned (.plain (OpenSpec.ofChange relativeOnceSpec)) relativeOnceCard

/-- THE TIED CARD OF 'overseerlaw39.RelativeSupremal'. -/
def relativeSupremalCard : Claim7 := { stood := { row := relativeSupremalRow, standIns := [], harness := (true, "6e69ebb42269e437bb2d9699e2d5bb709277eef49df4398832319d516b08c18c"), looks := false }, kinds := [], alts := [], laidByText := true, laidKinds := [.data, .data, .data], laidTests := true, laidLooks := .later }
def RelativeSupremalCardSaid : Prop := Claim7.holds Tryz.pinned (.plain (OpenSpec.ofChange relativeSupremalSpec)) relativeSupremalCard

/-- THE TIED CARD OF 'overseerlaw39.RelativeAmbient'. -/
def relativeAmbientCard : Claim7 := { stood := { row := relativeAmbientRow, standIns := [], harness := (true, "6e69ebb42269e437bb2d9699e2d5bb709277eef49df4398832319d516b08c18c"), looks := false }, kinds := [], alts := [], laidByText := true, laidKinds := [.data, .data, .data], laidTests := true, laidLooks := .later }
def RelativeAmbientCardSaid : Prop := Claim7.holds Tryz.pinned (.plain (OpenSpec.ofChange relativeAmbientSpec)) relativeAmbientCard

/-- THE TIED CARD OF 'overseerlaw39.RelativeWords'. -/
def relativeWordsCard : Claim7 := { stood := { row := relativeWordsRow, standIns := [], harness := (true, "6e69ebb42269e437bb2d9699e2d5bb709277eef49df4398832319d516b08c18c"), looks := false }, kinds := [], alts := [], laidByText := true, laidKinds := [.data, .data, .data], laidTests := true, laidLooks := .later }
def RelativeWordsCardSaid : Prop := Claim7.holds Tryz.pinned (.plain (OpenSpec.ofChange relativeWordsSpec)) relativeWordsCard

/-- THE TIED CARD OF 'overseerlaw39.RelativeAgain'. -/
def relativeAgainCard : Claim7 := { stood := { row := relativeAgainRow, standIns := [], harness := (true, "6e69ebb42269e437bb2d9699e2d5bb709277eef49df4398832319d516b08c18c"), looks := false }, kinds := [], alts := [], laidByText := true, laidKinds := [.data, .data, .data], laidTests := true, laidLooks := .later }
def RelativeAgainCardSaid : Prop := Claim7.holds Tryz.pinned (.plain (OpenSpec.ofChange relativeAgainSpec)) relativeAgainCard

/-- THE SECOND FORM's CARD OF 'overseerlaw39.RelativeLanguages'. -/
def relativeLanguagesUptoCard : Claim7 := { stood := { row := relativeLanguagesUptoRow, standIns := [], harness := (true, "6e69ebb42269e437bb2d9699e2d5bb709277eef49df4398832319d516b08c18c"), looks := false }, kinds := [], alts := [], laidByText := true, laidKinds := [.data, .data, .data], laidTests := true, laidLooks := .later }
def RelativeLanguagesUptoCardSaid : Prop := Claim7.holds Tryz.pinned (.plain (OpenSpec.upto relativeLanguagesSpec)) relativeLanguagesUptoCard

/-- THE SECOND FORM's CARD OF 'overseerlaw39.RelativeChecks'. -/
def relativeChecksUptoCard : Claim7 := { stood := { row := relativeChecksUptoRow, standIns := [], harness := (true, "6e69ebb42269e437bb2d9699e2d5bb709277eef49df4398832319d516b08c18c"), looks := false }, kinds := [], alts := [], laidByText := true, laidKinds := [.data, .data, .data], laidTests := true, laidLooks := .later }
def RelativeChecksUptoCardSaid : Prop := Claim7.holds Tryz.pinned (.plain (OpenSpec.upto relativeChecksSpec)) relativeChecksUptoCard

/-- THE SECOND FORM's CARD OF 'overseerlaw39.RelativeRefutes'. -/
def relativeRefutesUptoCard : Claim7 := { stood := { row := relativeRefutesUptoRow, standIns := [], harness := (true, "6e69ebb42269e437bb2d9699e2d5bb709277eef49df4398832319d516b08c18c"), looks := false }, kinds := [], alts := [], laidByText := true, laidKinds := [.data, .data, .data], laidTests := true, laidLooks := .later }
def RelativeRefutesUptoCardSaid : Prop := Claim7.holds Tryz.pinned (.plain (OpenSpec.upto relativeRefutesSpec)) relativeRefutesUptoCard

/-- THE SECOND FORM's CARD OF 'overseerlaw39.RelativeHolds'. -/
def relativeHoldsUptoCard : Claim7 := { stood := { row := relativeHoldsUptoRow, standIns := [], harness := (true, "6e69ebb42269e437bb2d9699e2d5bb709277eef49df4398832319d516b08c18c"), looks := false }, kinds := [], alts := [], laidByText := true, laidKinds := [.data, .data, .data], laidTests := true, laidLooks := .later }
def RelativeHoldsUptoCardSaid : Prop := Claim7.holds Tryz.pinned (.plain (OpenSpec.upto relativeHoldsSpec)) relativeHoldsUptoCard

/-- THE SECOND FORM's CARD OF 'overseerlaw39.RelativeOnce'. -/
def relativeOnceUptoCard : Claim7 := { stood := { row := relativeOnceUptoRow, standIns := [], harness := (true, "6e69ebb42269e437bb2d9699e2d5bb709277eef49df4398832319d516b08c18c"), looks := false }, kinds := [], alts := [], laidByText := true, laidKinds := [.data, .data, .data], laidTests := true, laidLooks := .later }
def RelativeOnceUptoCardSaid : Prop := Claim7.holds Tryz.pinned (.plain (OpenSpec.upto relativeOnceSpec)) relativeOnceUptoCard

/-- THE SECOND FORM's CARD OF 'overseerlaw39.RelativeSupremal'. -/
def relativeSupremalUptoCard : Claim7 := { stood := { row := relativeSupremalUptoRow, standIns := [], harness := (true, "6e69ebb42269e437bb2d9699e2d5bb709277eef49df4398832319d516b08c18c"), looks := false }, kinds := [], alts := [], laidByText := true, laidKinds := [.data, .data, .data], laidTests := true, laidLooks := .later }
def RelativeSupremalUptoCardSaid : Prop := Claim7.holds Tryz.pinned (.plain (OpenSpec.upto relativeSupremalSpec)) relativeSupremalUptoCard

/-- THE SECOND FORM's CARD OF 'overseerlaw39.RelativeAmbient'. -/
def relativeAmbientUptoCard : Claim7 := { stood := { row := relativeAmbientUptoRow, standIns := [], harness := (true, "6e69ebb42269e437bb2d9699e2d5bb709277eef49df4398832319d516b08c18c"), looks := false }, kinds := [], alts := [], laidByText := true, laidKinds := [.data, .data, .data], laidTests := true, laidLooks := .later }
def RelativeAmbientUptoCardSaid : Prop := Claim7.holds Tryz.pinned (.plain (OpenSpec.upto relativeAmbientSpec)) relativeAmbientUptoCard

/-- THE SECOND FORM's CARD OF 'overseerlaw39.RelativeWords'. -/
def relativeWordsUptoCard : Claim7 := { stood := { row := relativeWordsUptoRow, standIns := [], harness := (true, "6e69ebb42269e437bb2d9699e2d5bb709277eef49df4398832319d516b08c18c"), looks := false }, kinds := [], alts := [], laidByText := true, laidKinds := [.data, .data, .data], laidTests := true, laidLooks := .later }
def RelativeWordsUptoCardSaid : Prop := Claim7.holds Tryz.pinned (.plain (OpenSpec.upto relativeWordsSpec)) relativeWordsUptoCard

/-- THE SECOND FORM's CARD OF 'overseerlaw39.RelativeAgain'. -/
def relativeAgainUptoCard : Claim7 := { stood := { row := relativeAgainUptoRow, standIns := [], harness := (true, "6e69ebb42269e437bb2d9699e2d5bb709277eef49df4398832319d516b08c18c"), looks := false }, kinds := [], alts := [], laidByText := true, laidKinds := [.data, .data, .data], laidTests := true, laidLooks := .later }
def RelativeAgainUptoCardSaid : Prop := Claim7.holds Tryz.pinned (.plain (OpenSpec.upto relativeAgainSpec)) relativeAgainUptoCard
end Rows
end Go.Proofs.YtdckcingoapofaaGreatDoor
