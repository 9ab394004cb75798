/-
  No cell of these rows narrows 'for every input' (looked for: loops, veiled, ifaces, maps, wideKeys, modest, calm, conditions, laid).
  DERIVED. THE GIVEN ROWS OF THIS SEAT. 10 by the template 'for every input the law returns true; each argument reads behind the call as it read before'; 0 by the template 'total and deterministic' (their statements: YtkikefkbidaiaaaTotals.lean).
  GIVEN WITH THE SEED: the statements are not yours to turn. If you find one false, say at which input.
  Laid BY PROGRAM, IN A SANDBOX (cutbox-rows.mjs): the forced cells as the released guide's own fill.sh prints them over the translation 3575f3d17ecdc615… (all of the seat's roots in one cut). By AI agents, Wed Nov 11 2026. No macro, syntax, notation, axiom, sorry.
-/
import Derived.Test.YtkikefkbidaiaaaChecked
import GoSem.Claim
import GoSem.ClaimJoined
import GoSem.ClaimMapViews
import Derived.JoinedTies
import Derived.KernelRfl
namespace Go.Proofs.Ytkikefkbidaiaaa
/- THE CELL 'sum', in the pinned program and in every row, IS THE sha256 OF THE DUMP (.gsa) THAT YtkikefkbidaiaaaProg.lean LOADS. Nothing in Lean hashes anything: it is a label: what it is worth is what the hold of that sum in a sandbox is worth. -/
noncomputable def Try.pinned : Pinned := { name := "ytkikefkbidaiaaa", sum := "3575f3d17ecdc61503744861e28fcdc473df463ee0d62a6953b62b4573b87f9f", checked := Try.checked }
namespace Rows
def none {H : Type} : Left H := { results := [], args := [] }

/-- 'overseerlaw03.AutomatonWords': WHATEVER THE INPUT: true; the input reads as it did. -/
def automatonWordsSpec : ChangeSpec := { name := "automatonWords", fn := fun _ => fun
  | [d1, d2, d3] => { results := [.lit (.bool true)], args := [d1, d2, d3] }
  | _ => none }
def automatonWordsRow : OpenClaim := { program := "ytkikefkbidaiaaa", sum := "3575f3d17ecdc61503744861e28fcdc473df463ee0d62a6953b62b4573b87f9f", func := "overseer/overseerlaw03.AutomatonWords", spec := "automatonWords", unfollowed := true, recurses := true, apart := false }
def AutomatonWordsSaid : Prop := automatonWordsRow.holds Try.pinned (OpenSpec.ofChange automatonWordsSpec)

/-- ITS FALSE NEIGHBOUR: 'it returns false'. Refute it at one input. -/
def automatonWordsWrong : ChangeSpec := { name := "automatonWords", fn := fun _ => fun
  | [d1, d2, d3] => { results := [.lit (.bool false)], args := [d1, d2, d3] }
  | _ => none }
def AutomatonWordsWrongFalsely : Prop := automatonWordsRow.holds Try.pinned (OpenSpec.ofChange automatonWordsWrong)

/-- 'overseerlaw03.AutomatonMany': WHATEVER THE INPUT: true; the input reads as it did. -/
def automatonManySpec : ChangeSpec := { name := "automatonMany", fn := fun _ => fun
  | [d1, d2] => { results := [.lit (.bool true)], args := [d1, d2] }
  | _ => none }
def automatonManyRow : OpenClaim := { program := "ytkikefkbidaiaaa", sum := "3575f3d17ecdc61503744861e28fcdc473df463ee0d62a6953b62b4573b87f9f", func := "overseer/overseerlaw03.AutomatonMany", spec := "automatonMany", unfollowed := true, recurses := true, apart := false }
def AutomatonManySaid : Prop := automatonManyRow.holds Try.pinned (OpenSpec.ofChange automatonManySpec)

/-- ITS FALSE NEIGHBOUR: 'it returns false'. Refute it at one input. -/
def automatonManyWrong : ChangeSpec := { name := "automatonMany", fn := fun _ => fun
  | [d1, d2] => { results := [.lit (.bool false)], args := [d1, d2] }
  | _ => none }
def AutomatonManyWrongFalsely : Prop := automatonManyRow.holds Try.pinned (OpenSpec.ofChange automatonManyWrong)

/-- 'overseerlaw03.AutomatonRelabels': WHATEVER THE INPUT: true; the input reads as it did. -/
def automatonRelabelsSpec : ChangeSpec := { name := "automatonRelabels", fn := fun _ => fun
  | [d1, d2, d3] => { results := [.lit (.bool true)], args := [d1, d2, d3] }
  | _ => none }
def automatonRelabelsRow : OpenClaim := { program := "ytkikefkbidaiaaa", sum := "3575f3d17ecdc61503744861e28fcdc473df463ee0d62a6953b62b4573b87f9f", func := "overseer/overseerlaw03.AutomatonRelabels", spec := "automatonRelabels", unfollowed := true, recurses := true, apart := false }
def AutomatonRelabelsSaid : Prop := automatonRelabelsRow.holds Try.pinned (OpenSpec.ofChange automatonRelabelsSpec)

/-- ITS FALSE NEIGHBOUR: 'it returns false'. Refute it at one input. -/
def automatonRelabelsWrong : ChangeSpec := { name := "automatonRelabels", fn := fun _ => fun
  | [d1, d2, d3] => { results := [.lit (.bool false)], args := [d1, d2, d3] }
  | _ => none }
def AutomatonRelabelsWrongFalsely : Prop := automatonRelabelsRow.holds Try.pinned (OpenSpec.ofChange automatonRelabelsWrong)

/-- 'overseerlaw03.AutomatonEquals': WHATEVER THE INPUT: true; the input reads as it did. -/
def automatonEqualsSpec : ChangeSpec := { name := "automatonEquals", fn := fun _ => fun
  | [d1, d2] => { results := [.lit (.bool true)], args := [d1, d2] }
  | _ => none }
def automatonEqualsRow : OpenClaim := { program := "ytkikefkbidaiaaa", sum := "3575f3d17ecdc61503744861e28fcdc473df463ee0d62a6953b62b4573b87f9f", func := "overseer/overseerlaw03.AutomatonEquals", spec := "automatonEquals", unfollowed := true, recurses := true, apart := false }
def AutomatonEqualsSaid : Prop := automatonEqualsRow.holds Try.pinned (OpenSpec.ofChange automatonEqualsSpec)

/-- ITS FALSE NEIGHBOUR: 'it returns false'. Refute it at one input. -/
def automatonEqualsWrong : ChangeSpec := { name := "automatonEquals", fn := fun _ => fun
  | [d1, d2] => { results := [.lit (.bool false)], args := [d1, d2] }
  | _ => none }
def AutomatonEqualsWrongFalsely : Prop := automatonEqualsRow.holds Try.pinned (OpenSpec.ofChange automatonEqualsWrong)

/-- 'overseerlaw03.AutomatonCanonical': WHATEVER THE INPUT: true; the input reads as it did. -/
def automatonCanonicalSpec : ChangeSpec := { name := "automatonCanonical", fn := fun _ => fun
  | [d] => { results := [.lit (.bool true)], args := [d] }
  | _ => none }
def automatonCanonicalRow : OpenClaim := { program := "ytkikefkbidaiaaa", sum := "3575f3d17ecdc61503744861e28fcdc473df463ee0d62a6953b62b4573b87f9f", func := "overseer/overseerlaw03.AutomatonCanonical", spec := "automatonCanonical", unfollowed := true, recurses := true, apart := false }
def AutomatonCanonicalSaid : Prop := automatonCanonicalRow.holds Try.pinned (OpenSpec.ofChange automatonCanonicalSpec)

/-- ITS FALSE NEIGHBOUR: 'it returns false'. Refute it at one input. -/
def automatonCanonicalWrong : ChangeSpec := { name := "automatonCanonical", fn := fun _ => fun
  | [d] => { results := [.lit (.bool false)], args := [d] }
  | _ => none }
def AutomatonCanonicalWrongFalsely : Prop := automatonCanonicalRow.holds Try.pinned (OpenSpec.ofChange automatonCanonicalWrong)

/-- 'overseerlaw03.AutomatonRuns': WHATEVER THE INPUT: true; the input reads as it did. -/
def automatonRunsSpec : ChangeSpec := { name := "automatonRuns", fn := fun _ => fun
  | [d1, d2, d3] => { results := [.lit (.bool true)], args := [d1, d2, d3] }
  | _ => none }
def automatonRunsRow : OpenClaim := { program := "ytkikefkbidaiaaa", sum := "3575f3d17ecdc61503744861e28fcdc473df463ee0d62a6953b62b4573b87f9f", func := "overseer/overseerlaw03.AutomatonRuns", spec := "automatonRuns", unfollowed := true, recurses := true, apart := false }
def AutomatonRunsSaid : Prop := automatonRunsRow.holds Try.pinned (OpenSpec.ofChange automatonRunsSpec)

/-- ITS FALSE NEIGHBOUR: 'it returns false'. Refute it at one input. -/
def automatonRunsWrong : ChangeSpec := { name := "automatonRuns", fn := fun _ => fun
  | [d1, d2, d3] => { results := [.lit (.bool false)], args := [d1, d2, d3] }
  | _ => none }
def AutomatonRunsWrongFalsely : Prop := automatonRunsRow.holds Try.pinned (OpenSpec.ofChange automatonRunsWrong)

/-- 'overseerlaw03.AutomatonLanguages': WHATEVER THE INPUT: true; the input reads as it did. -/
def automatonLanguagesSpec : ChangeSpec := { name := "automatonLanguages", fn := fun _ => fun
  | [d1, d2] => { results := [.lit (.bool true)], args := [d1, d2] }
  | _ => none }
def automatonLanguagesRow : OpenClaim := { program := "ytkikefkbidaiaaa", sum := "3575f3d17ecdc61503744861e28fcdc473df463ee0d62a6953b62b4573b87f9f", func := "overseer/overseerlaw03.AutomatonLanguages", spec := "automatonLanguages", unfollowed := true, recurses := true, apart := false }
def AutomatonLanguagesSaid : Prop := automatonLanguagesRow.holds Try.pinned (OpenSpec.ofChange automatonLanguagesSpec)

/-- ITS FALSE NEIGHBOUR: 'it returns false'. Refute it at one input. -/
def automatonLanguagesWrong : ChangeSpec := { name := "automatonLanguages", fn := fun _ => fun
  | [d1, d2] => { results := [.lit (.bool false)], args := [d1, d2] }
  | _ => none }
def AutomatonLanguagesWrongFalsely : Prop := automatonLanguagesRow.holds Try.pinned (OpenSpec.ofChange automatonLanguagesWrong)

/-- 'overseerlaw03.AutomatonSteps': WHATEVER THE INPUT: true; the input reads as it did. -/
def automatonStepsSpec : ChangeSpec := { name := "automatonSteps", fn := fun _ => fun
  | [d1, d2, d3] => { results := [.lit (.bool true)], args := [d1, d2, d3] }
  | _ => none }
def automatonStepsRow : OpenClaim := { program := "ytkikefkbidaiaaa", sum := "3575f3d17ecdc61503744861e28fcdc473df463ee0d62a6953b62b4573b87f9f", func := "overseer/overseerlaw03.AutomatonSteps", spec := "automatonSteps", unfollowed := true, recurses := true, apart := false }
def AutomatonStepsSaid : Prop := automatonStepsRow.holds Try.pinned (OpenSpec.ofChange automatonStepsSpec)

/-- ITS FALSE NEIGHBOUR: 'it returns false'. Refute it at one input. -/
def automatonStepsWrong : ChangeSpec := { name := "automatonSteps", fn := fun _ => fun
  | [d1, d2, d3] => { results := [.lit (.bool false)], args := [d1, d2, d3] }
  | _ => none }
def AutomatonStepsWrongFalsely : Prop := automatonStepsRow.holds Try.pinned (OpenSpec.ofChange automatonStepsWrong)

/-- 'overseerlaw03.AutomatonCompletes': WHATEVER THE INPUT: true; the input reads as it did. -/
def automatonCompletesSpec : ChangeSpec := { name := "automatonCompletes", fn := fun _ => fun
  | [d1, d2, d3] => { results := [.lit (.bool true)], args := [d1, d2, d3] }
  | _ => none }
def automatonCompletesRow : OpenClaim := { program := "ytkikefkbidaiaaa", sum := "3575f3d17ecdc61503744861e28fcdc473df463ee0d62a6953b62b4573b87f9f", func := "overseer/overseerlaw03.AutomatonCompletes", spec := "automatonCompletes", unfollowed := true, recurses := true, apart := false }
def AutomatonCompletesSaid : Prop := automatonCompletesRow.holds Try.pinned (OpenSpec.ofChange automatonCompletesSpec)

/-- ITS FALSE NEIGHBOUR: 'it returns false'. Refute it at one input. -/
def automatonCompletesWrong : ChangeSpec := { name := "automatonCompletes", fn := fun _ => fun
  | [d1, d2, d3] => { results := [.lit (.bool false)], args := [d1, d2, d3] }
  | _ => none }
def AutomatonCompletesWrongFalsely : Prop := automatonCompletesRow.holds Try.pinned (OpenSpec.ofChange automatonCompletesWrong)

/-- 'overseerlaw03.AutomatonChecks': WHATEVER THE INPUT: true; the input reads as it did. -/
def automatonChecksSpec : ChangeSpec := { name := "automatonChecks", fn := fun _ => fun
  | [d] => { results := [.lit (.bool true)], args := [d] }
  | _ => none }
def automatonChecksRow : OpenClaim := { program := "ytkikefkbidaiaaa", sum := "3575f3d17ecdc61503744861e28fcdc473df463ee0d62a6953b62b4573b87f9f", func := "overseer/overseerlaw03.AutomatonChecks", spec := "automatonChecks", unfollowed := true, recurses := true, apart := false }
def AutomatonChecksSaid : Prop := automatonChecksRow.holds Try.pinned (OpenSpec.ofChange automatonChecksSpec)

/-- ITS FALSE NEIGHBOUR: 'it returns false'. Refute it at one input. -/
def automatonChecksWrong : ChangeSpec := { name := "automatonChecks", fn := fun _ => fun
  | [d] => { results := [.lit (.bool false)], args := [d] }
  | _ => none }
def AutomatonChecksWrongFalsely : Prop := automatonChecksRow.holds Try.pinned (OpenSpec.ofChange automatonChecksWrong)

/- THE SECOND FORM. 'bulk': how many values and letters a reading holds, each counted each time it is reached (what is shared counts as often as it is met; a slice's spare places count too). A statement '..UptoSaid' is the law's where the arguments, and the package variables that the reading takes, are together of bulk at most 1048576: NARROWER than '..Said'. Prove '..Said' where nothing that the law and all that it calls make is longer than what came in: it says more and counts as full. Else prove '..UptoSaid'. A law counts once. -/
mutual
def uptoBulk {H : Type} : DataW H → Nat
  | .lit (.string bytes) => bytes.length + 1
  | .lit _ => 1
  | .nil => 1
  | .ptr d => uptoBulk d + 1
  | .slice elems spare => uptoBulkAll elems + uptoBulkAll spare + 1
  | .agg parts => uptoBulkAll parts + 1
  | .iface _ d => uptoBulk d + 1
  | .map entries => uptoBulkEntries entries + 1
  | .held _ => 1
def uptoBulkAll {H : Type} : List (DataW H) → Nat
  | [] => 0
  | d :: r => uptoBulk d + uptoBulkAll r
def uptoBulkEntries {H : Type} : List (Lit × DataW H) → Nat
  | [] => 0
  | x :: r => uptoBulkEntry x + uptoBulkEntries r
def uptoBulkEntry {H : Type} : Lit × DataW H → Nat
  | (.string bytes, d) => bytes.length + uptoBulk d + 1
  | (_, d) => uptoBulk d + 1
 end
def uptoSmall : (H : Type) → List (DataW H) → Bool := fun _ ds => decide (uptoBulkAll ds ≤ 1048576)
def OpenSpec.upto (s : _root_.Go.ChangeSpec) : _root_.Go.OpenSpec := { _root_.Go.OpenSpec.ofChange s with cond := some uptoSmall }

/-- 'overseerlaw03.AutomatonWords', WHERE WHAT IT READS IS OF BULK AT MOST 1048576: true; the input reads as it did. -/
def automatonWordsUptoRow : OpenClaim := { program := "ytkikefkbidaiaaa", sum := "3575f3d17ecdc61503744861e28fcdc473df463ee0d62a6953b62b4573b87f9f", func := "overseer/overseerlaw03.AutomatonWords", spec := "automatonWords", unfollowed := true, recurses := true, apart := false, narrowed := true }
def AutomatonWordsUptoSaid : Prop := automatonWordsUptoRow.holds Try.pinned (OpenSpec.upto automatonWordsSpec)

/-- 'overseerlaw03.AutomatonMany', WHERE WHAT IT READS IS OF BULK AT MOST 1048576: true; the input reads as it did. -/
def automatonManyUptoRow : OpenClaim := { program := "ytkikefkbidaiaaa", sum := "3575f3d17ecdc61503744861e28fcdc473df463ee0d62a6953b62b4573b87f9f", func := "overseer/overseerlaw03.AutomatonMany", spec := "automatonMany", unfollowed := true, recurses := true, apart := false, narrowed := true }
def AutomatonManyUptoSaid : Prop := automatonManyUptoRow.holds Try.pinned (OpenSpec.upto automatonManySpec)

/-- 'overseerlaw03.AutomatonRelabels', WHERE WHAT IT READS IS OF BULK AT MOST 1048576: true; the input reads as it did. -/
def automatonRelabelsUptoRow : OpenClaim := { program := "ytkikefkbidaiaaa", sum := "3575f3d17ecdc61503744861e28fcdc473df463ee0d62a6953b62b4573b87f9f", func := "overseer/overseerlaw03.AutomatonRelabels", spec := "automatonRelabels", unfollowed := true, recurses := true, apart := false, narrowed := true }
def AutomatonRelabelsUptoSaid : Prop := automatonRelabelsUptoRow.holds Try.pinned (OpenSpec.upto automatonRelabelsSpec)

/-- 'overseerlaw03.AutomatonEquals', WHERE WHAT IT READS IS OF BULK AT MOST 1048576: true; the input reads as it did. -/
def automatonEqualsUptoRow : OpenClaim := { program := "ytkikefkbidaiaaa", sum := "3575f3d17ecdc61503744861e28fcdc473df463ee0d62a6953b62b4573b87f9f", func := "overseer/overseerlaw03.AutomatonEquals", spec := "automatonEquals", unfollowed := true, recurses := true, apart := false, narrowed := true }
def AutomatonEqualsUptoSaid : Prop := automatonEqualsUptoRow.holds Try.pinned (OpenSpec.upto automatonEqualsSpec)

/-- 'overseerlaw03.AutomatonCanonical', WHERE WHAT IT READS IS OF BULK AT MOST 1048576: true; the input reads as it did. -/
def automatonCanonicalUptoRow : OpenClaim := { program := "ytkikefkbidaiaaa", sum := "3575f3d17ecdc61503744861e28fcdc473df463ee0d62a6953b62b4573b87f9f", func := "overseer/overseerlaw03.AutomatonCanonical", spec := "automatonCanonical", unfollowed := true, recurses := true, apart := false, narrowed := true }
def AutomatonCanonicalUptoSaid : Prop := automatonCanonicalUptoRow.holds Try.pinned (OpenSpec.upto automatonCanonicalSpec)

/-- 'overseerlaw03.AutomatonRuns', WHERE WHAT IT READS IS OF BULK AT MOST 1048576: true; the input reads as it did. -/
def automatonRunsUptoRow : OpenClaim := { program := "ytkikefkbidaiaaa", sum := "3575f3d17ecdc61503744861e28fcdc473df463ee0d62a6953b62b4573b87f9f", func := "overseer/overseerlaw03.AutomatonRuns", spec := "automatonRuns", unfollowed := true, recurses := true, apart := false, narrowed := true }
def AutomatonRunsUptoSaid : Prop := automatonRunsUptoRow.holds Try.pinned (OpenSpec.upto automatonRunsSpec)

/-- 'overseerlaw03.AutomatonLanguages', WHERE WHAT IT READS IS OF BULK AT MOST 1048576: true; the input reads as it did. -/
def automatonLanguagesUptoRow : OpenClaim := { program := "ytkikefkbidaiaaa", sum := "3575f3d17ecdc61503744861e28fcdc473df463ee0d62a6953b62b4573b87f9f", func := "overseer/overseerlaw03.AutomatonLanguages", spec := "automatonLanguages", unfollowed := true, recurses := true, apart := false, narrowed := true }
def AutomatonLanguagesUptoSaid : Prop := automatonLanguagesUptoRow.holds Try.pinned (OpenSpec.upto automatonLanguagesSpec)

/-- 'overseerlaw03.AutomatonSteps', WHERE WHAT IT READS IS OF BULK AT MOST 1048576: true; the input reads as it did. -/
def automatonStepsUptoRow : OpenClaim := { program := "ytkikefkbidaiaaa", sum := "3575f3d17ecdc61503744861e28fcdc473df463ee0d62a6953b62b4573b87f9f", func := "overseer/overseerlaw03.AutomatonSteps", spec := "automatonSteps", unfollowed := true, recurses := true, apart := false, narrowed := true }
def AutomatonStepsUptoSaid : Prop := automatonStepsUptoRow.holds Try.pinned (OpenSpec.upto automatonStepsSpec)

/-- 'overseerlaw03.AutomatonCompletes', WHERE WHAT IT READS IS OF BULK AT MOST 1048576: true; the input reads as it did. -/
def automatonCompletesUptoRow : OpenClaim := { program := "ytkikefkbidaiaaa", sum := "3575f3d17ecdc61503744861e28fcdc473df463ee0d62a6953b62b4573b87f9f", func := "overseer/overseerlaw03.AutomatonCompletes", spec := "automatonCompletes", unfollowed := true, recurses := true, apart := false, narrowed := true }
def AutomatonCompletesUptoSaid : Prop := automatonCompletesUptoRow.holds Try.pinned (OpenSpec.upto automatonCompletesSpec)

/-- 'overseerlaw03.AutomatonChecks', WHERE WHAT IT READS IS OF BULK AT MOST 1048576: true; the input reads as it did. -/
def automatonChecksUptoRow : OpenClaim := { program := "ytkikefkbidaiaaa", sum := "3575f3d17ecdc61503744861e28fcdc473df463ee0d62a6953b62b4573b87f9f", func := "overseer/overseerlaw03.AutomatonChecks", spec := "automatonChecks", unfollowed := true, recurses := true, apart := false, narrowed := true }
def AutomatonChecksUptoSaid : Prop := automatonChecksUptoRow.holds Try.pinned (OpenSpec.upto automatonChecksSpec)

end Rows
end Go.Proofs.Ytkikefkbidaiaaa
