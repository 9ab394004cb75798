/-
  No cell of these rows narrows 'for every input' (looked for: loops, veiled, ifaces, maps, wideKeys, modest, calm, conditions, laid).
  DERIVED. THE GIVEN ROWS OF THIS SEAT. 5 by the template 'for every input the law returns true; each argument reads behind the call as it read before'; 0 by the template 'total and deterministic' (their statements: YtdfiohnppomfgaaGreatTotals.lean).
  GIVEN WITH THE SEED: the statements are not yours to turn. If you find one false, say at which input.
  Laid BY PROGRAM, IN A SANDBOX (cutbox-rows.mjs): the forced cells as the released guide's own fill.sh prints them over the translation 22250823faa3e1f4… (all of the seat's roots in one cut). By AI agents, Wed Nov 11 2026. No macro, syntax, notation, axiom, sorry.
-/
import Derived.Test.YtdfiohnppomfgaaGreatChecked
import GoSem.Claim
import GoSem.ClaimJoined
import GoSem.ClaimMapViews
import Derived.JoinedTies
import Derived.KernelRfl
namespace Go.Proofs.YtdfiohnppomfgaaGreat
/- THE CELL 'sum', in the pinned program and in every row, IS THE sha256 OF THE DUMP (.gsa) THAT YtdfiohnppomfgaaGreatProg.lean LOADS. Nothing in Lean hashes anything: it is a label: what it is worth is what the hold of that sum in a sandbox is worth. -/
noncomputable def Tryz.pinned : Pinned := { name := "ytdfiohnppomfgaagreat", sum := "22250823faa3e1f483d4f4cc3e72f1a0e24a2aa7474b4328eccaa902fe671852", checked := Tryz.checked }
namespace Rows
def none {H : Type} : Left H := { results := [], args := [] }

/-- 'overseerlaw07.ProjectionProjects': WHATEVER THE INPUT: true; the input reads as it did. -/
def projectionProjectsSpec : ChangeSpec := { name := "projectionProjects", fn := fun _ => fun
  | [d1, d2, d3] => { results := [.lit (.bool true)], args := [d1, d2, d3] }
  | _ => none }
def projectionProjectsRow : OpenClaim := { program := "ytdfiohnppomfgaagreat", sum := "22250823faa3e1f483d4f4cc3e72f1a0e24a2aa7474b4328eccaa902fe671852", func := "overseer/overseerlaw07.ProjectionProjects", spec := "projectionProjects", inPlace := ["internal/abi.NoEscape"], unfollowed := true, recurses := true, plainKeys := false, apart := false }
def ProjectionProjectsSaid : Prop := projectionProjectsRow.holds Tryz.pinned (OpenSpec.ofChange projectionProjectsSpec)

/-- ITS FALSE NEIGHBOUR: 'it returns false'. Refute it at one input. -/
def projectionProjectsWrong : ChangeSpec := { name := "projectionProjects", fn := fun _ => fun
  | [d1, d2, d3] => { results := [.lit (.bool false)], args := [d1, d2, d3] }
  | _ => none }
def ProjectionProjectsWrongFalsely : Prop := projectionProjectsRow.holds Tryz.pinned (OpenSpec.ofChange projectionProjectsWrong)

/-- 'overseerlaw07.ProjectionReaches': WHATEVER THE INPUT: true; the input reads as it did. -/
def projectionReachesSpec : ChangeSpec := { name := "projectionReaches", fn := fun _ => fun
  | [d1, d2, d3] => { results := [.lit (.bool true)], args := [d1, d2, d3] }
  | _ => none }
def projectionReachesRow : OpenClaim := { program := "ytdfiohnppomfgaagreat", sum := "22250823faa3e1f483d4f4cc3e72f1a0e24a2aa7474b4328eccaa902fe671852", func := "overseer/overseerlaw07.ProjectionReaches", spec := "projectionReaches", inPlace := ["internal/abi.NoEscape"], unfollowed := true, recurses := true, plainKeys := false, apart := false }
def ProjectionReachesSaid : Prop := projectionReachesRow.holds Tryz.pinned (OpenSpec.ofChange projectionReachesSpec)

/-- ITS FALSE NEIGHBOUR: 'it returns false'. Refute it at one input. -/
def projectionReachesWrong : ChangeSpec := { name := "projectionReaches", fn := fun _ => fun
  | [d1, d2, d3] => { results := [.lit (.bool false)], args := [d1, d2, d3] }
  | _ => none }
def ProjectionReachesWrongFalsely : Prop := projectionReachesRow.holds Tryz.pinned (OpenSpec.ofChange projectionReachesWrong)

/-- 'overseerlaw07.ProjectionEstimates': WHATEVER THE INPUT: true; the input reads as it did. -/
def projectionEstimatesSpec : ChangeSpec := { name := "projectionEstimates", fn := fun _ => fun
  | [d1, d2, d3] => { results := [.lit (.bool true)], args := [d1, d2, d3] }
  | _ => none }
def projectionEstimatesRow : OpenClaim := { program := "ytdfiohnppomfgaagreat", sum := "22250823faa3e1f483d4f4cc3e72f1a0e24a2aa7474b4328eccaa902fe671852", func := "overseer/overseerlaw07.ProjectionEstimates", spec := "projectionEstimates", inPlace := ["internal/abi.NoEscape"], unfollowed := true, recurses := true, plainKeys := false, apart := false }
def ProjectionEstimatesSaid : Prop := projectionEstimatesRow.holds Tryz.pinned (OpenSpec.ofChange projectionEstimatesSpec)

/-- ITS FALSE NEIGHBOUR: 'it returns false'. Refute it at one input. -/
def projectionEstimatesWrong : ChangeSpec := { name := "projectionEstimates", fn := fun _ => fun
  | [d1, d2, d3] => { results := [.lit (.bool false)], args := [d1, d2, d3] }
  | _ => none }
def ProjectionEstimatesWrongFalsely : Prop := projectionEstimatesRow.holds Tryz.pinned (OpenSpec.ofChange projectionEstimatesWrong)

/-- 'overseerlaw07.ProjectionWords': WHATEVER THE INPUT: true; the input reads as it did. -/
def projectionWordsSpec : ChangeSpec := { name := "projectionWords", fn := fun _ => fun
  | [d1, d2] => { results := [.lit (.bool true)], args := [d1, d2] }
  | _ => none }
def projectionWordsRow : OpenClaim := { program := "ytdfiohnppomfgaagreat", sum := "22250823faa3e1f483d4f4cc3e72f1a0e24a2aa7474b4328eccaa902fe671852", func := "overseer/overseerlaw07.ProjectionWords", spec := "projectionWords", inPlace := ["internal/abi.NoEscape"], unfollowed := true, recurses := true, plainKeys := false, apart := false }
def ProjectionWordsSaid : Prop := projectionWordsRow.holds Tryz.pinned (OpenSpec.ofChange projectionWordsSpec)

/-- ITS FALSE NEIGHBOUR: 'it returns false'. Refute it at one input. -/
def projectionWordsWrong : ChangeSpec := { name := "projectionWords", fn := fun _ => fun
  | [d1, d2] => { results := [.lit (.bool false)], args := [d1, d2] }
  | _ => none }
def ProjectionWordsWrongFalsely : Prop := projectionWordsRow.holds Tryz.pinned (OpenSpec.ofChange projectionWordsWrong)

/-- 'overseerlaw07.ProjectionLeast': WHATEVER THE INPUT: true; the input reads as it did. -/
def projectionLeastSpec : ChangeSpec := { name := "projectionLeast", fn := fun _ => fun
  | [d1, d2, d3] => { results := [.lit (.bool true)], args := [d1, d2, d3] }
  | _ => none }
def projectionLeastRow : OpenClaim := { program := "ytdfiohnppomfgaagreat", sum := "22250823faa3e1f483d4f4cc3e72f1a0e24a2aa7474b4328eccaa902fe671852", func := "overseer/overseerlaw07.ProjectionLeast", spec := "projectionLeast", inPlace := ["internal/abi.NoEscape"], unfollowed := true, recurses := true, plainKeys := false, apart := false }
def ProjectionLeastSaid : Prop := projectionLeastRow.holds Tryz.pinned (OpenSpec.ofChange projectionLeastSpec)

/-- ITS FALSE NEIGHBOUR: 'it returns false'. Refute it at one input. -/
def projectionLeastWrong : ChangeSpec := { name := "projectionLeast", fn := fun _ => fun
  | [d1, d2, d3] => { results := [.lit (.bool false)], args := [d1, d2, d3] }
  | _ => none }
def ProjectionLeastWrongFalsely : Prop := projectionLeastRow.holds Tryz.pinned (OpenSpec.ofChange projectionLeastWrong)

/- THE SECOND FORM. 'bulk': how many values and letters a reading holds, each counted each time it is reached (what is shared counts as often as it is met; a slice's spare places count too). A statement '..UptoSaid' is the law's where the arguments, and the package variables that the reading takes, are together of bulk at most 1048576: NARROWER than '..Said'. Prove '..Said' where nothing that the law and all that it calls make is longer than what came in: it says more and counts as full. Else prove '..UptoSaid'. A law counts once. -/
mutual
def uptoBulk {H : Type} : DataW H → Nat
  | .lit (.string bytes) => bytes.length + 1
  | .lit _ => 1
  | .nil => 1
  | .ptr d => uptoBulk d + 1
  | .slice elems spare => uptoBulkAll elems + uptoBulkAll spare + 1
  | .agg parts => uptoBulkAll parts + 1
  | .iface _ d => uptoBulk d + 1
  | .map entries => uptoBulkEntries entries + 1
  | .held _ => 1
def uptoBulkAll {H : Type} : List (DataW H) → Nat
  | [] => 0
  | d :: r => uptoBulk d + uptoBulkAll r
def uptoBulkEntries {H : Type} : List (Lit × DataW H) → Nat
  | [] => 0
  | x :: r => uptoBulkEntry x + uptoBulkEntries r
def uptoBulkEntry {H : Type} : Lit × DataW H → Nat
  | (.string bytes, d) => bytes.length + uptoBulk d + 1
  | (_, d) => uptoBulk d + 1
 end
def uptoSmall : (H : Type) → List (DataW H) → Bool := fun _ ds => decide (uptoBulkAll ds ≤ 1048576)
def OpenSpec.upto (s : _root_.Go.ChangeSpec) : _root_.Go.OpenSpec := { _root_.Go.OpenSpec.ofChange s with cond := some uptoSmall }

/-- 'overseerlaw07.ProjectionProjects', WHERE WHAT IT READS IS OF BULK AT MOST 1048576: true; the input reads as it did. -/
def projectionProjectsUptoRow : OpenClaim := { program := "ytdfiohnppomfgaagreat", sum := "22250823faa3e1f483d4f4cc3e72f1a0e24a2aa7474b4328eccaa902fe671852", func := "overseer/overseerlaw07.ProjectionProjects", spec := "projectionProjects", inPlace := ["internal/abi.NoEscape"], unfollowed := true, recurses := true, plainKeys := false, apart := false, narrowed := true }
def ProjectionProjectsUptoSaid : Prop := projectionProjectsUptoRow.holds Tryz.pinned (OpenSpec.upto projectionProjectsSpec)

/-- 'overseerlaw07.ProjectionReaches', WHERE WHAT IT READS IS OF BULK AT MOST 1048576: true; the input reads as it did. -/
def projectionReachesUptoRow : OpenClaim := { program := "ytdfiohnppomfgaagreat", sum := "22250823faa3e1f483d4f4cc3e72f1a0e24a2aa7474b4328eccaa902fe671852", func := "overseer/overseerlaw07.ProjectionReaches", spec := "projectionReaches", inPlace := ["internal/abi.NoEscape"], unfollowed := true, recurses := true, plainKeys := false, apart := false, narrowed := true }
def ProjectionReachesUptoSaid : Prop := projectionReachesUptoRow.holds Tryz.pinned (OpenSpec.upto projectionReachesSpec)

/-- 'overseerlaw07.ProjectionEstimates', WHERE WHAT IT READS IS OF BULK AT MOST 1048576: true; the input reads as it did. -/
def projectionEstimatesUptoRow : OpenClaim := { program := "ytdfiohnppomfgaagreat", sum := "22250823faa3e1f483d4f4cc3e72f1a0e24a2aa7474b4328eccaa902fe671852", func := "overseer/overseerlaw07.ProjectionEstimates", spec := "projectionEstimates", inPlace := ["internal/abi.NoEscape"], unfollowed := true, recurses := true, plainKeys := false, apart := false, narrowed := true }
def ProjectionEstimatesUptoSaid : Prop := projectionEstimatesUptoRow.holds Tryz.pinned (OpenSpec.upto projectionEstimatesSpec)

/-- 'overseerlaw07.ProjectionWords', WHERE WHAT IT READS IS OF BULK AT MOST 1048576: true; the input reads as it did. -/
def projectionWordsUptoRow : OpenClaim := { program := "ytdfiohnppomfgaagreat", sum := "22250823faa3e1f483d4f4cc3e72f1a0e24a2aa7474b4328eccaa902fe671852", func := "overseer/overseerlaw07.ProjectionWords", spec := "projectionWords", inPlace := ["internal/abi.NoEscape"], unfollowed := true, recurses := true, plainKeys := false, apart := false, narrowed := true }
def ProjectionWordsUptoSaid : Prop := projectionWordsUptoRow.holds Tryz.pinned (OpenSpec.upto projectionWordsSpec)

/-- 'overseerlaw07.ProjectionLeast', WHERE WHAT IT READS IS OF BULK AT MOST 1048576: true; the input reads as it did. -/
def projectionLeastUptoRow : OpenClaim := { program := "ytdfiohnppomfgaagreat", sum := "22250823faa3e1f483d4f4cc3e72f1a0e24a2aa7474b4328eccaa902fe671852", func := "overseer/overseerlaw07.ProjectionLeast", spec := "projectionLeast", inPlace := ["internal/abi.NoEscape"], unfollowed := true, recurses := true, plainKeys := false, apart := false, narrowed := true }
def ProjectionLeastUptoSaid : Prop := projectionLeastUptoRow.holds Tryz.pinned (OpenSpec.upto projectionLeastSpec)

end Rows
end Go.Proofs.YtdfiohnppomfgaaGreat
