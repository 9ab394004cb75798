/-
  No cell of these rows narrows 'for every input' (looked for: loops, veiled, ifaces, maps, wideKeys, modest, calm, conditions, laid).
  DERIVED. THE GIVEN ROWS OF THIS SEAT. 4 by the template 'for every input the law returns true; each argument reads behind the call as it read before'; 0 by the template 'total and deterministic' (their statements: YtdfiohnppomfgaaTotals.lean).
  GIVEN WITH THE SEED: the statements are not yours to turn. If you find one false, say at which input.
  Laid BY PROGRAM, IN A SANDBOX (cutbox-rows.mjs): the forced cells as the released guide's own fill.sh prints them over the translation ffc9704b08f75938… (all of the seat's roots in one cut). By AI agents, Wed Nov 11 2026. No macro, syntax, notation, axiom, sorry.
-/
import Derived.Test.YtdfiohnppomfgaaChecked
import GoSem.Claim
import GoSem.ClaimJoined
import GoSem.ClaimMapViews
import Derived.JoinedTies
import Derived.KernelRfl
namespace Go.Proofs.Ytdfiohnppomfgaa
/- THE CELL 'sum', in the pinned program and in every row, IS THE sha256 OF THE DUMP (.gsa) THAT YtdfiohnppomfgaaProg.lean LOADS. Nothing in Lean hashes anything: it is a label: what it is worth is what the hold of that sum in a sandbox is worth. -/
noncomputable def Try.pinned : Pinned := { name := "ytdfiohnppomfgaa", sum := "ffc9704b08f75938eb66a4bec8a7dfcef919a41fc4eff623c33f5df941fcce34", checked := Try.checked }
namespace Rows
def none {H : Type} : Left H := { results := [], args := [] }

/-- 'overseerlaw07.ProjectionInverts': WHATEVER THE INPUT: true; the input reads as it did. -/
def projectionInvertsSpec : ChangeSpec := { name := "projectionInverts", fn := fun _ => fun
  | [d1, d2, d3] => { results := [.lit (.bool true)], args := [d1, d2, d3] }
  | _ => none }
def projectionInvertsRow : OpenClaim := { program := "ytdfiohnppomfgaa", sum := "ffc9704b08f75938eb66a4bec8a7dfcef919a41fc4eff623c33f5df941fcce34", func := "overseer/overseerlaw07.ProjectionInverts", spec := "projectionInverts", inPlace := ["internal/abi.NoEscape"], unfollowed := true, recurses := true, plainKeys := false, apart := false }
def ProjectionInvertsSaid : Prop := projectionInvertsRow.holds Try.pinned (OpenSpec.ofChange projectionInvertsSpec)

/-- ITS FALSE NEIGHBOUR: 'it returns false'. Refute it at one input. -/
def projectionInvertsWrong : ChangeSpec := { name := "projectionInverts", fn := fun _ => fun
  | [d1, d2, d3] => { results := [.lit (.bool false)], args := [d1, d2, d3] }
  | _ => none }
def ProjectionInvertsWrongFalsely : Prop := projectionInvertsRow.holds Try.pinned (OpenSpec.ofChange projectionInvertsWrong)

/-- 'overseerlaw07.ProjectionLifts': WHATEVER THE INPUT: true; the input reads as it did. -/
def projectionLiftsSpec : ChangeSpec := { name := "projectionLifts", fn := fun _ => fun
  | [d1, d2, d3] => { results := [.lit (.bool true)], args := [d1, d2, d3] }
  | _ => none }
def projectionLiftsRow : OpenClaim := { program := "ytdfiohnppomfgaa", sum := "ffc9704b08f75938eb66a4bec8a7dfcef919a41fc4eff623c33f5df941fcce34", func := "overseer/overseerlaw07.ProjectionLifts", spec := "projectionLifts", inPlace := ["internal/abi.NoEscape"], unfollowed := true, recurses := true, plainKeys := false, apart := false }
def ProjectionLiftsSaid : Prop := projectionLiftsRow.holds Try.pinned (OpenSpec.ofChange projectionLiftsSpec)

/-- ITS FALSE NEIGHBOUR: 'it returns false'. Refute it at one input. -/
def projectionLiftsWrong : ChangeSpec := { name := "projectionLifts", fn := fun _ => fun
  | [d1, d2, d3] => { results := [.lit (.bool false)], args := [d1, d2, d3] }
  | _ => none }
def ProjectionLiftsWrongFalsely : Prop := projectionLiftsRow.holds Try.pinned (OpenSpec.ofChange projectionLiftsWrong)

/-- 'overseerlaw07.ProjectionTwice': WHATEVER THE INPUT: true; the input reads as it did. -/
def projectionTwiceSpec : ChangeSpec := { name := "projectionTwice", fn := fun _ => fun
  | [d1, d2] => { results := [.lit (.bool true)], args := [d1, d2] }
  | _ => none }
def projectionTwiceRow : OpenClaim := { program := "ytdfiohnppomfgaa", sum := "ffc9704b08f75938eb66a4bec8a7dfcef919a41fc4eff623c33f5df941fcce34", func := "overseer/overseerlaw07.ProjectionTwice", spec := "projectionTwice", inPlace := ["internal/abi.NoEscape"], unfollowed := true, recurses := true, plainKeys := false, apart := false }
def ProjectionTwiceSaid : Prop := projectionTwiceRow.holds Try.pinned (OpenSpec.ofChange projectionTwiceSpec)

/-- ITS FALSE NEIGHBOUR: 'it returns false'. Refute it at one input. -/
def projectionTwiceWrong : ChangeSpec := { name := "projectionTwice", fn := fun _ => fun
  | [d1, d2] => { results := [.lit (.bool false)], args := [d1, d2] }
  | _ => none }
def ProjectionTwiceWrongFalsely : Prop := projectionTwiceRow.holds Try.pinned (OpenSpec.ofChange projectionTwiceWrong)

/-- 'overseerlaw07.ProjectionChecks': WHATEVER THE INPUT: true; the input reads as it did. -/
def projectionChecksSpec : ChangeSpec := { name := "projectionChecks", fn := fun _ => fun
  | [d1, d2] => { results := [.lit (.bool true)], args := [d1, d2] }
  | _ => none }
def projectionChecksRow : OpenClaim := { program := "ytdfiohnppomfgaa", sum := "ffc9704b08f75938eb66a4bec8a7dfcef919a41fc4eff623c33f5df941fcce34", func := "overseer/overseerlaw07.ProjectionChecks", spec := "projectionChecks", inPlace := ["internal/abi.NoEscape"], unfollowed := true, recurses := true, plainKeys := false, apart := false }
def ProjectionChecksSaid : Prop := projectionChecksRow.holds Try.pinned (OpenSpec.ofChange projectionChecksSpec)

/-- ITS FALSE NEIGHBOUR: 'it returns false'. Refute it at one input. -/
def projectionChecksWrong : ChangeSpec := { name := "projectionChecks", fn := fun _ => fun
  | [d1, d2] => { results := [.lit (.bool false)], args := [d1, d2] }
  | _ => none }
def ProjectionChecksWrongFalsely : Prop := projectionChecksRow.holds Try.pinned (OpenSpec.ofChange projectionChecksWrong)

/- THE SECOND FORM. 'bulk': how many values and letters a reading holds, each counted each time it is reached (what is shared counts as often as it is met; a slice's spare places count too). A statement '..UptoSaid' is the law's where the arguments, and the package variables that the reading takes, are together of bulk at most 1048576: NARROWER than '..Said'. Prove '..Said' where nothing that the law and all that it calls make is longer than what came in: it says more and counts as full. Else prove '..UptoSaid'. A law counts once. -/
mutual
def uptoBulk {H : Type} : DataW H → Nat
  | .lit (.string bytes) => bytes.length + 1
  | .lit _ => 1
  | .nil => 1
  | .ptr d => uptoBulk d + 1
  | .slice elems spare => uptoBulkAll elems + uptoBulkAll spare + 1
  | .agg parts => uptoBulkAll parts + 1
  | .iface _ d => uptoBulk d + 1
  | .map entries => uptoBulkEntries entries + 1
  | .held _ => 1
def uptoBulkAll {H : Type} : List (DataW H) → Nat
  | [] => 0
  | d :: r => uptoBulk d + uptoBulkAll r
def uptoBulkEntries {H : Type} : List (Lit × DataW H) → Nat
  | [] => 0
  | x :: r => uptoBulkEntry x + uptoBulkEntries r
def uptoBulkEntry {H : Type} : Lit × DataW H → Nat
  | (.string bytes, d) => bytes.length + uptoBulk d + 1
  | (_, d) => uptoBulk d + 1
 end
def uptoSmall : (H : Type) → List (DataW H) → Bool := fun _ ds => decide (uptoBulkAll ds ≤ 1048576)
def OpenSpec.upto (s : _root_.Go.ChangeSpec) : _root_.Go.OpenSpec := { _root_.Go.OpenSpec.ofChange s with cond := some uptoSmall }

/-- 'overseerlaw07.ProjectionInverts', WHERE WHAT IT READS IS OF BULK AT MOST 1048576: true; the input reads as it did. -/
def projectionInvertsUptoRow : OpenClaim := { program := "ytdfiohnppomfgaa", sum := "ffc9704b08f75938eb66a4bec8a7dfcef919a41fc4eff623c33f5df941fcce34", func := "overseer/overseerlaw07.ProjectionInverts", spec := "projectionInverts", inPlace := ["internal/abi.NoEscape"], unfollowed := true, recurses := true, plainKeys := false, apart := false, narrowed := true }
def ProjectionInvertsUptoSaid : Prop := projectionInvertsUptoRow.holds Try.pinned (OpenSpec.upto projectionInvertsSpec)

/-- 'overseerlaw07.ProjectionLifts', WHERE WHAT IT READS IS OF BULK AT MOST 1048576: true; the input reads as it did. -/
def projectionLiftsUptoRow : OpenClaim := { program := "ytdfiohnppomfgaa", sum := "ffc9704b08f75938eb66a4bec8a7dfcef919a41fc4eff623c33f5df941fcce34", func := "overseer/overseerlaw07.ProjectionLifts", spec := "projectionLifts", inPlace := ["internal/abi.NoEscape"], unfollowed := true, recurses := true, plainKeys := false, apart := false, narrowed := true }
def ProjectionLiftsUptoSaid : Prop := projectionLiftsUptoRow.holds Try.pinned (OpenSpec.upto projectionLiftsSpec)

/-- 'overseerlaw07.ProjectionTwice', WHERE WHAT IT READS IS OF BULK AT MOST 1048576: true; the input reads as it did. -/
def projectionTwiceUptoRow : OpenClaim := { program := "ytdfiohnppomfgaa", sum := "ffc9704b08f75938eb66a4bec8a7dfcef919a41fc4eff623c33f5df941fcce34", func := "overseer/overseerlaw07.ProjectionTwice", spec := "projectionTwice", inPlace := ["internal/abi.NoEscape"], unfollowed := true, recurses := true, plainKeys := false, apart := false, narrowed := true }
def ProjectionTwiceUptoSaid : Prop := projectionTwiceUptoRow.holds Try.pinned (OpenSpec.upto projectionTwiceSpec)

/-- 'overseerlaw07.ProjectionChecks', WHERE WHAT IT READS IS OF BULK AT MOST 1048576: true; the input reads as it did. -/
def projectionChecksUptoRow : OpenClaim := { program := "ytdfiohnppomfgaa", sum := "ffc9704b08f75938eb66a4bec8a7dfcef919a41fc4eff623c33f5df941fcce34", func := "overseer/overseerlaw07.ProjectionChecks", spec := "projectionChecks", inPlace := ["internal/abi.NoEscape"], unfollowed := true, recurses := true, plainKeys := false, apart := false, narrowed := true }
def ProjectionChecksUptoSaid : Prop := projectionChecksUptoRow.holds Try.pinned (OpenSpec.upto projectionChecksSpec)

end Rows
end Go.Proofs.Ytdfiohnppomfgaa
