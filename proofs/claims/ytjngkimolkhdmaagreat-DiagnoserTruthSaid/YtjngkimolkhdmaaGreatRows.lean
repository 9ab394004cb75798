/-
  No cell of these rows narrows 'for every input' (looked for: loops, veiled, ifaces, maps, wideKeys, modest, calm, conditions, laid).
  DERIVED. THE GIVEN ROWS OF THIS SEAT. 8 by the template 'for every input the law returns true; each argument reads behind the call as it read before'; 0 by the template 'total and deterministic' (their statements: YtjngkimolkhdmaaGreatTotals.lean).
  GIVEN WITH THE SEED: the statements are not yours to turn. If you find one false, say at which input.
  Laid BY PROGRAM, IN A SANDBOX (cutbox-rows.mjs): the forced cells as the released guide's own fill.sh prints them over the translation afb265e6d5e8c49b… (all of the seat's roots in one cut). By AI agents, Wed Nov 11 2026. No macro, syntax, notation, axiom, sorry.
-/
import Derived.Test.YtjngkimolkhdmaaGreatChecked
import GoSem.Claim
import GoSem.ClaimJoined
import GoSem.ClaimMapViews
import Derived.JoinedTies
import Derived.KernelRfl
namespace Go.Proofs.YtjngkimolkhdmaaGreat
/- THE CELL 'sum', in the pinned program and in every row, IS THE sha256 OF THE DUMP (.gsa) THAT YtjngkimolkhdmaaGreatProg.lean LOADS. Nothing in Lean hashes anything: it is a label: what it is worth is what the hold of that sum in a sandbox is worth. -/
noncomputable def Tryz.pinned : Pinned := { name := "ytjngkimolkhdmaagreat", sum := "afb265e6d5e8c49b1533d075b832b4b7af579e47e9eb4d89bef8a1a499d819a3", checked := Tryz.checked }
namespace Rows
def none {H : Type} : Left H := { results := [], args := [] }

/-- 'overseerlaw42.DiagnoserLoops': WHATEVER THE INPUT: true; the input reads as it did. -/
def diagnoserLoopsSpec : ChangeSpec := { name := "diagnoserLoops", fn := fun _ => fun
  | [d1, d2] => { results := [.lit (.bool true)], args := [d1, d2] }
  | _ => none }
def diagnoserLoopsRow : OpenClaim := { program := "ytjngkimolkhdmaagreat", sum := "afb265e6d5e8c49b1533d075b832b4b7af579e47e9eb4d89bef8a1a499d819a3", func := "overseer/overseerlaw42.DiagnoserLoops", spec := "diagnoserLoops", inPlace := ["internal/abi.NoEscape"], unfollowed := true, recurses := true, plainKeys := false, apart := false }
def DiagnoserLoopsSaid : Prop := diagnoserLoopsRow.holds Tryz.pinned (OpenSpec.ofChange diagnoserLoopsSpec)

/-- ITS FALSE NEIGHBOUR: 'it returns false'. Refute it at one input. -/
def diagnoserLoopsWrong : ChangeSpec := { name := "diagnoserLoops", fn := fun _ => fun
  | [d1, d2] => { results := [.lit (.bool false)], args := [d1, d2] }
  | _ => none }
def DiagnoserLoopsWrongFalsely : Prop := diagnoserLoopsRow.holds Tryz.pinned (OpenSpec.ofChange diagnoserLoopsWrong)

/-- 'overseerlaw42.DiagnoserBuilds': WHATEVER THE INPUT: true; the input reads as it did. -/
def diagnoserBuildsSpec : ChangeSpec := { name := "diagnoserBuilds", fn := fun _ => fun
  | [d] => { results := [.lit (.bool true)], args := [d] }
  | _ => none }
def diagnoserBuildsRow : OpenClaim := { program := "ytjngkimolkhdmaagreat", sum := "afb265e6d5e8c49b1533d075b832b4b7af579e47e9eb4d89bef8a1a499d819a3", func := "overseer/overseerlaw42.DiagnoserBuilds", spec := "diagnoserBuilds", inPlace := ["internal/abi.NoEscape"], unfollowed := true, recurses := true, plainKeys := false, apart := false }
def DiagnoserBuildsSaid : Prop := diagnoserBuildsRow.holds Tryz.pinned (OpenSpec.ofChange diagnoserBuildsSpec)

/-- ITS FALSE NEIGHBOUR: 'it returns false'. Refute it at one input. -/
def diagnoserBuildsWrong : ChangeSpec := { name := "diagnoserBuilds", fn := fun _ => fun
  | [d] => { results := [.lit (.bool false)], args := [d] }
  | _ => none }
def DiagnoserBuildsWrongFalsely : Prop := diagnoserBuildsRow.holds Tryz.pinned (OpenSpec.ofChange diagnoserBuildsWrong)

/-- 'overseerlaw42.DiagnoserEstimates': WHATEVER THE INPUT: true; the input reads as it did. -/
def diagnoserEstimatesSpec : ChangeSpec := { name := "diagnoserEstimates", fn := fun _ => fun
  | [d1, d2] => { results := [.lit (.bool true)], args := [d1, d2] }
  | _ => none }
def diagnoserEstimatesRow : OpenClaim := { program := "ytjngkimolkhdmaagreat", sum := "afb265e6d5e8c49b1533d075b832b4b7af579e47e9eb4d89bef8a1a499d819a3", func := "overseer/overseerlaw42.DiagnoserEstimates", spec := "diagnoserEstimates", inPlace := ["internal/abi.NoEscape"], unfollowed := true, recurses := true, plainKeys := false, apart := false }
def DiagnoserEstimatesSaid : Prop := diagnoserEstimatesRow.holds Tryz.pinned (OpenSpec.ofChange diagnoserEstimatesSpec)

/-- ITS FALSE NEIGHBOUR: 'it returns false'. Refute it at one input. -/
def diagnoserEstimatesWrong : ChangeSpec := { name := "diagnoserEstimates", fn := fun _ => fun
  | [d1, d2] => { results := [.lit (.bool false)], args := [d1, d2] }
  | _ => none }
def DiagnoserEstimatesWrongFalsely : Prop := diagnoserEstimatesRow.holds Tryz.pinned (OpenSpec.ofChange diagnoserEstimatesWrong)

/-- 'overseerlaw42.DiagnoserErrors': WHATEVER THE INPUT: true; the input reads as it did. -/
def diagnoserErrorsSpec : ChangeSpec := { name := "diagnoserErrors", fn := fun _ => fun
  | [d1, d2] => { results := [.lit (.bool true)], args := [d1, d2] }
  | _ => none }
def diagnoserErrorsRow : OpenClaim := { program := "ytjngkimolkhdmaagreat", sum := "afb265e6d5e8c49b1533d075b832b4b7af579e47e9eb4d89bef8a1a499d819a3", func := "overseer/overseerlaw42.DiagnoserErrors", spec := "diagnoserErrors", inPlace := ["internal/abi.NoEscape"], unfollowed := true, recurses := true, plainKeys := false, apart := false }
def DiagnoserErrorsSaid : Prop := diagnoserErrorsRow.holds Tryz.pinned (OpenSpec.ofChange diagnoserErrorsSpec)

/-- ITS FALSE NEIGHBOUR: 'it returns false'. Refute it at one input. -/
def diagnoserErrorsWrong : ChangeSpec := { name := "diagnoserErrors", fn := fun _ => fun
  | [d1, d2] => { results := [.lit (.bool false)], args := [d1, d2] }
  | _ => none }
def DiagnoserErrorsWrongFalsely : Prop := diagnoserErrorsRow.holds Tryz.pinned (OpenSpec.ofChange diagnoserErrorsWrong)

/-- 'overseerlaw42.DiagnoserNil': WHATEVER THE INPUT: true; the input reads as it did. -/
def diagnoserNilSpec : ChangeSpec := { name := "diagnoserNil", fn := fun _ => fun
  | [d1, d2] => { results := [.lit (.bool true)], args := [d1, d2] }
  | _ => none }
def diagnoserNilRow : OpenClaim := { program := "ytjngkimolkhdmaagreat", sum := "afb265e6d5e8c49b1533d075b832b4b7af579e47e9eb4d89bef8a1a499d819a3", func := "overseer/overseerlaw42.DiagnoserNil", spec := "diagnoserNil", inPlace := ["internal/abi.NoEscape"], unfollowed := true, recurses := true, plainKeys := false, apart := false }
def DiagnoserNilSaid : Prop := diagnoserNilRow.holds Tryz.pinned (OpenSpec.ofChange diagnoserNilSpec)

/-- ITS FALSE NEIGHBOUR: 'it returns false'. Refute it at one input. -/
def diagnoserNilWrong : ChangeSpec := { name := "diagnoserNil", fn := fun _ => fun
  | [d1, d2] => { results := [.lit (.bool false)], args := [d1, d2] }
  | _ => none }
def DiagnoserNilWrongFalsely : Prop := diagnoserNilRow.holds Tryz.pinned (OpenSpec.ofChange diagnoserNilWrong)

/-- 'overseerlaw42.DiagnoserRuns': WHATEVER THE INPUT: true; the input reads as it did. -/
def diagnoserRunsSpec : ChangeSpec := { name := "diagnoserRuns", fn := fun _ => fun
  | [d1, d2, d3] => { results := [.lit (.bool true)], args := [d1, d2, d3] }
  | _ => none }
def diagnoserRunsRow : OpenClaim := { program := "ytjngkimolkhdmaagreat", sum := "afb265e6d5e8c49b1533d075b832b4b7af579e47e9eb4d89bef8a1a499d819a3", func := "overseer/overseerlaw42.DiagnoserRuns", spec := "diagnoserRuns", inPlace := ["internal/abi.NoEscape"], unfollowed := true, recurses := true, plainKeys := false, apart := false }
def DiagnoserRunsSaid : Prop := diagnoserRunsRow.holds Tryz.pinned (OpenSpec.ofChange diagnoserRunsSpec)

/-- ITS FALSE NEIGHBOUR: 'it returns false'. Refute it at one input. -/
def diagnoserRunsWrong : ChangeSpec := { name := "diagnoserRuns", fn := fun _ => fun
  | [d1, d2, d3] => { results := [.lit (.bool false)], args := [d1, d2, d3] }
  | _ => none }
def DiagnoserRunsWrongFalsely : Prop := diagnoserRunsRow.holds Tryz.pinned (OpenSpec.ofChange diagnoserRunsWrong)

/-- 'overseerlaw42.DiagnoserTruth': WHATEVER THE INPUT: true; the input reads as it did. -/
def diagnoserTruthSpec : ChangeSpec := { name := "diagnoserTruth", fn := fun _ => fun
  | [d1, d2, d3] => { results := [.lit (.bool true)], args := [d1, d2, d3] }
  | _ => none }
def diagnoserTruthRow : OpenClaim := { program := "ytjngkimolkhdmaagreat", sum := "afb265e6d5e8c49b1533d075b832b4b7af579e47e9eb4d89bef8a1a499d819a3", func := "overseer/overseerlaw42.DiagnoserTruth", spec := "diagnoserTruth", inPlace := ["internal/abi.NoEscape"], unfollowed := true, recurses := true, plainKeys := false, apart := false }
def DiagnoserTruthSaid : Prop := diagnoserTruthRow.holds Tryz.pinned (OpenSpec.ofChange diagnoserTruthSpec)

/-- ITS FALSE NEIGHBOUR: 'it returns false'. Refute it at one input. -/
def diagnoserTruthWrong : ChangeSpec := { name := "diagnoserTruth", fn := fun _ => fun
  | [d1, d2, d3] => { results := [.lit (.bool false)], args := [d1, d2, d3] }
  | _ => none }
def DiagnoserTruthWrongFalsely : Prop := diagnoserTruthRow.holds Tryz.pinned (OpenSpec.ofChange diagnoserTruthWrong)

/-- 'overseerlaw42.DiagnoserExplains': WHATEVER THE INPUT: true; the input reads as it did. -/
def diagnoserExplainsSpec : ChangeSpec := { name := "diagnoserExplains", fn := fun _ => fun
  | [d1, d2, d3] => { results := [.lit (.bool true)], args := [d1, d2, d3] }
  | _ => none }
def diagnoserExplainsRow : OpenClaim := { program := "ytjngkimolkhdmaagreat", sum := "afb265e6d5e8c49b1533d075b832b4b7af579e47e9eb4d89bef8a1a499d819a3", func := "overseer/overseerlaw42.DiagnoserExplains", spec := "diagnoserExplains", inPlace := ["internal/abi.NoEscape"], unfollowed := true, recurses := true, plainKeys := false, apart := false }
def DiagnoserExplainsSaid : Prop := diagnoserExplainsRow.holds Tryz.pinned (OpenSpec.ofChange diagnoserExplainsSpec)

/-- ITS FALSE NEIGHBOUR: 'it returns false'. Refute it at one input. -/
def diagnoserExplainsWrong : ChangeSpec := { name := "diagnoserExplains", fn := fun _ => fun
  | [d1, d2, d3] => { results := [.lit (.bool false)], args := [d1, d2, d3] }
  | _ => none }
def DiagnoserExplainsWrongFalsely : Prop := diagnoserExplainsRow.holds Tryz.pinned (OpenSpec.ofChange diagnoserExplainsWrong)

/- THE SECOND FORM. 'bulk': how many values and letters a reading holds, each counted each time it is reached (what is shared counts as often as it is met; a slice's spare places count too). A statement '..UptoSaid' is the law's where the arguments, and the package variables that the reading takes, are together of bulk at most 1048576: NARROWER than '..Said'. Prove '..Said' where nothing that the law and all that it calls make is longer than what came in: it says more and counts as full. Else prove '..UptoSaid'. A law counts once. -/
mutual
def uptoBulk {H : Type} : DataW H → Nat
  | .lit (.string bytes) => bytes.length + 1
  | .lit _ => 1
  | .nil => 1
  | .ptr d => uptoBulk d + 1
  | .slice elems spare => uptoBulkAll elems + uptoBulkAll spare + 1
  | .agg parts => uptoBulkAll parts + 1
  | .iface _ d => uptoBulk d + 1
  | .map entries => uptoBulkEntries entries + 1
  | .held _ => 1
def uptoBulkAll {H : Type} : List (DataW H) → Nat
  | [] => 0
  | d :: r => uptoBulk d + uptoBulkAll r
def uptoBulkEntries {H : Type} : List (Lit × DataW H) → Nat
  | [] => 0
  | x :: r => uptoBulkEntry x + uptoBulkEntries r
def uptoBulkEntry {H : Type} : Lit × DataW H → Nat
  | (.string bytes, d) => bytes.length + uptoBulk d + 1
  | (_, d) => uptoBulk d + 1
 end
def uptoSmall : (H : Type) → List (DataW H) → Bool := fun _ ds => decide (uptoBulkAll ds ≤ 1048576)
def OpenSpec.upto (s : _root_.Go.ChangeSpec) : _root_.Go.OpenSpec := { _root_.Go.OpenSpec.ofChange s with cond := some uptoSmall }

/-- 'overseerlaw42.DiagnoserLoops', WHERE WHAT IT READS IS OF BULK AT MOST 1048576: true; the input reads as it did. -/
def diagnoserLoopsUptoRow : OpenClaim := { program := "ytjngkimolkhdmaagreat", sum := "afb265e6d5e8c49b1533d075b832b4b7af579e47e9eb4d89bef8a1a499d819a3", func := "overseer/overseerlaw42.DiagnoserLoops", spec := "diagnoserLoops", inPlace := ["internal/abi.NoEscape"], unfollowed := true, recurses := true, plainKeys := false, apart := false, narrowed := true }
def DiagnoserLoopsUptoSaid : Prop := diagnoserLoopsUptoRow.holds Tryz.pinned (OpenSpec.upto diagnoserLoopsSpec)

/-- 'overseerlaw42.DiagnoserBuilds', WHERE WHAT IT READS IS OF BULK AT MOST 1048576: true; the input reads as it did. -/
def diagnoserBuildsUptoRow : OpenClaim := { program := "ytjngkimolkhdmaagreat", sum := "afb265e6d5e8c49b1533d075b832b4b7af579e47e9eb4d89bef8a1a499d819a3", func := "overseer/overseerlaw42.DiagnoserBuilds", spec := "diagnoserBuilds", inPlace := ["internal/abi.NoEscape"], unfollowed := true, recurses := true, plainKeys := false, apart := false, narrowed := true }
def DiagnoserBuildsUptoSaid : Prop := diagnoserBuildsUptoRow.holds Tryz.pinned (OpenSpec.upto diagnoserBuildsSpec)

/-- 'overseerlaw42.DiagnoserEstimates', WHERE WHAT IT READS IS OF BULK AT MOST 1048576: true; the input reads as it did. -/
def diagnoserEstimatesUptoRow : OpenClaim := { program := "ytjngkimolkhdmaagreat", sum := "afb265e6d5e8c49b1533d075b832b4b7af579e47e9eb4d89bef8a1a499d819a3", func := "overseer/overseerlaw42.DiagnoserEstimates", spec := "diagnoserEstimates", inPlace := ["internal/abi.NoEscape"], unfollowed := true, recurses := true, plainKeys := false, apart := false, narrowed := true }
def DiagnoserEstimatesUptoSaid : Prop := diagnoserEstimatesUptoRow.holds Tryz.pinned (OpenSpec.upto diagnoserEstimatesSpec)

/-- 'overseerlaw42.DiagnoserErrors', WHERE WHAT IT READS IS OF BULK AT MOST 1048576: true; the input reads as it did. -/
def diagnoserErrorsUptoRow : OpenClaim := { program := "ytjngkimolkhdmaagreat", sum := "afb265e6d5e8c49b1533d075b832b4b7af579e47e9eb4d89bef8a1a499d819a3", func := "overseer/overseerlaw42.DiagnoserErrors", spec := "diagnoserErrors", inPlace := ["internal/abi.NoEscape"], unfollowed := true, recurses := true, plainKeys := false, apart := false, narrowed := true }
def DiagnoserErrorsUptoSaid : Prop := diagnoserErrorsUptoRow.holds Tryz.pinned (OpenSpec.upto diagnoserErrorsSpec)

/-- 'overseerlaw42.DiagnoserNil', WHERE WHAT IT READS IS OF BULK AT MOST 1048576: true; the input reads as it did. -/
def diagnoserNilUptoRow : OpenClaim := { program := "ytjngkimolkhdmaagreat", sum := "afb265e6d5e8c49b1533d075b832b4b7af579e47e9eb4d89bef8a1a499d819a3", func := "overseer/overseerlaw42.DiagnoserNil", spec := "diagnoserNil", inPlace := ["internal/abi.NoEscape"], unfollowed := true, recurses := true, plainKeys := false, apart := false, narrowed := true }
def DiagnoserNilUptoSaid : Prop := diagnoserNilUptoRow.holds Tryz.pinned (OpenSpec.upto diagnoserNilSpec)

/-- 'overseerlaw42.DiagnoserRuns', WHERE WHAT IT READS IS OF BULK AT MOST 1048576: true; the input reads as it did. -/
def diagnoserRunsUptoRow : OpenClaim := { program := "ytjngkimolkhdmaagreat", sum := "afb265e6d5e8c49b1533d075b832b4b7af579e47e9eb4d89bef8a1a499d819a3", func := "overseer/overseerlaw42.DiagnoserRuns", spec := "diagnoserRuns", inPlace := ["internal/abi.NoEscape"], unfollowed := true, recurses := true, plainKeys := false, apart := false, narrowed := true }
def DiagnoserRunsUptoSaid : Prop := diagnoserRunsUptoRow.holds Tryz.pinned (OpenSpec.upto diagnoserRunsSpec)

/-- 'overseerlaw42.DiagnoserTruth', WHERE WHAT IT READS IS OF BULK AT MOST 1048576: true; the input reads as it did. -/
def diagnoserTruthUptoRow : OpenClaim := { program := "ytjngkimolkhdmaagreat", sum := "afb265e6d5e8c49b1533d075b832b4b7af579e47e9eb4d89bef8a1a499d819a3", func := "overseer/overseerlaw42.DiagnoserTruth", spec := "diagnoserTruth", inPlace := ["internal/abi.NoEscape"], unfollowed := true, recurses := true, plainKeys := false, apart := false, narrowed := true }
def DiagnoserTruthUptoSaid : Prop := diagnoserTruthUptoRow.holds Tryz.pinned (OpenSpec.upto diagnoserTruthSpec)

/-- 'overseerlaw42.DiagnoserExplains', WHERE WHAT IT READS IS OF BULK AT MOST 1048576: true; the input reads as it did. -/
def diagnoserExplainsUptoRow : OpenClaim := { program := "ytjngkimolkhdmaagreat", sum := "afb265e6d5e8c49b1533d075b832b4b7af579e47e9eb4d89bef8a1a499d819a3", func := "overseer/overseerlaw42.DiagnoserExplains", spec := "diagnoserExplains", inPlace := ["internal/abi.NoEscape"], unfollowed := true, recurses := true, plainKeys := false, apart := false, narrowed := true }
def DiagnoserExplainsUptoSaid : Prop := diagnoserExplainsUptoRow.holds Tryz.pinned (OpenSpec.upto diagnoserExplainsSpec)

end Rows
end Go.Proofs.YtjngkimolkhdmaaGreat
