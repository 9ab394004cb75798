/-
  No cell of these rows narrows 'for every input' (looked for: loops, veiled, ifaces, maps, wideKeys, modest, calm, conditions, laid).
  DERIVED. THE GIVEN ROWS OF THIS SEAT. 7 by the template 'for every input the law returns true; each argument reads behind the call as it read before'; 0 by the template 'total and deterministic' (their statements: YtnmmhhnhjdglhaaTotals.lean).
  GIVEN WITH THE SEED: the statements are not yours to turn. If you find one false, say at which input.
  Laid BY PROGRAM, IN A SANDBOX (cutbox-rows.mjs): the forced cells as the released guide's own fill.sh prints them over the translation 5704444c99a1217e… (all of the seat's roots in one cut). By AI agents, Wed Nov 11 2026. No macro, syntax, notation, axiom, sorry.
-/
import Derived.Test.YtnmmhhnhjdglhaaChecked
import GoSem.Claim
import GoSem.ClaimJoined
import GoSem.ClaimMapViews
import Derived.JoinedTies
import Derived.KernelRfl
namespace Go.Proofs.Ytnmmhhnhjdglhaa
/- THE CELL 'sum', in the pinned program and in every row, IS THE sha256 OF THE DUMP (.gsa) THAT YtnmmhhnhjdglhaaProg.lean LOADS. Nothing in Lean hashes anything: it is a label: what it is worth is what the hold of that sum in a sandbox is worth. -/
noncomputable def Try.pinned : Pinned := { name := "ytnmmhhnhjdglhaa", sum := "5704444c99a1217e6d47b08155b7f3c88a588f681403188820fa71901353f3fa", checked := Try.checked }
namespace Rows
def none {H : Type} : Left H := { results := [], args := [] }

/-- 'overseerlaw21.RequirementPhases': WHATEVER THE INPUT: true; the input reads as it did. -/
def requirementPhasesSpec : ChangeSpec := { name := "requirementPhases", fn := fun _ => fun
  | [d1, d2] => { results := [.lit (.bool true)], args := [d1, d2] }
  | _ => none }
def requirementPhasesRow : OpenClaim := { program := "ytnmmhhnhjdglhaa", sum := "5704444c99a1217e6d47b08155b7f3c88a588f681403188820fa71901353f3fa", func := "overseer/overseerlaw21.RequirementPhases", spec := "requirementPhases", unfollowed := true, recurses := true, apart := false }
def RequirementPhasesSaid : Prop := requirementPhasesRow.holds Try.pinned (OpenSpec.ofChange requirementPhasesSpec)

/-- ITS FALSE NEIGHBOUR: 'it returns false'. Refute it at one input. -/
def requirementPhasesWrong : ChangeSpec := { name := "requirementPhases", fn := fun _ => fun
  | [d1, d2] => { results := [.lit (.bool false)], args := [d1, d2] }
  | _ => none }
def RequirementPhasesWrongFalsely : Prop := requirementPhasesRow.holds Try.pinned (OpenSpec.ofChange requirementPhasesWrong)

/-- 'overseerlaw21.RequirementBuffers': WHATEVER THE INPUT: true; the input reads as it did. -/
def requirementBuffersSpec : ChangeSpec := { name := "requirementBuffers", fn := fun _ => fun
  | [d1, d2, d3] => { results := [.lit (.bool true)], args := [d1, d2, d3] }
  | _ => none }
def requirementBuffersRow : OpenClaim := { program := "ytnmmhhnhjdglhaa", sum := "5704444c99a1217e6d47b08155b7f3c88a588f681403188820fa71901353f3fa", func := "overseer/overseerlaw21.RequirementBuffers", spec := "requirementBuffers", unfollowed := true, recurses := true, apart := false }
def RequirementBuffersSaid : Prop := requirementBuffersRow.holds Try.pinned (OpenSpec.ofChange requirementBuffersSpec)

/-- ITS FALSE NEIGHBOUR: 'it returns false'. Refute it at one input. -/
def requirementBuffersWrong : ChangeSpec := { name := "requirementBuffers", fn := fun _ => fun
  | [d1, d2, d3] => { results := [.lit (.bool false)], args := [d1, d2, d3] }
  | _ => none }
def RequirementBuffersWrongFalsely : Prop := requirementBuffersRow.holds Try.pinned (OpenSpec.ofChange requirementBuffersWrong)

/-- 'overseerlaw21.RequirementPrecedes': WHATEVER THE INPUT: true; the input reads as it did. -/
def requirementPrecedesSpec : ChangeSpec := { name := "requirementPrecedes", fn := fun _ => fun
  | [d1, d2] => { results := [.lit (.bool true)], args := [d1, d2] }
  | _ => none }
def requirementPrecedesRow : OpenClaim := { program := "ytnmmhhnhjdglhaa", sum := "5704444c99a1217e6d47b08155b7f3c88a588f681403188820fa71901353f3fa", func := "overseer/overseerlaw21.RequirementPrecedes", spec := "requirementPrecedes", unfollowed := true, recurses := true, apart := false }
def RequirementPrecedesSaid : Prop := requirementPrecedesRow.holds Try.pinned (OpenSpec.ofChange requirementPrecedesSpec)

/-- ITS FALSE NEIGHBOUR: 'it returns false'. Refute it at one input. -/
def requirementPrecedesWrong : ChangeSpec := { name := "requirementPrecedes", fn := fun _ => fun
  | [d1, d2] => { results := [.lit (.bool false)], args := [d1, d2] }
  | _ => none }
def RequirementPrecedesWrongFalsely : Prop := requirementPrecedesRow.holds Try.pinned (OpenSpec.ofChange requirementPrecedesWrong)

/-- 'overseerlaw21.RequirementBetween': WHATEVER THE INPUT: true; the input reads as it did. -/
def requirementBetweenSpec : ChangeSpec := { name := "requirementBetween", fn := fun _ => fun
  | [d1, d2] => { results := [.lit (.bool true)], args := [d1, d2] }
  | _ => none }
def requirementBetweenRow : OpenClaim := { program := "ytnmmhhnhjdglhaa", sum := "5704444c99a1217e6d47b08155b7f3c88a588f681403188820fa71901353f3fa", func := "overseer/overseerlaw21.RequirementBetween", spec := "requirementBetween", unfollowed := true, recurses := true, apart := false }
def RequirementBetweenSaid : Prop := requirementBetweenRow.holds Try.pinned (OpenSpec.ofChange requirementBetweenSpec)

/-- ITS FALSE NEIGHBOUR: 'it returns false'. Refute it at one input. -/
def requirementBetweenWrong : ChangeSpec := { name := "requirementBetween", fn := fun _ => fun
  | [d1, d2] => { results := [.lit (.bool false)], args := [d1, d2] }
  | _ => none }
def RequirementBetweenWrongFalsely : Prop := requirementBetweenRow.holds Try.pinned (OpenSpec.ofChange requirementBetweenWrong)

/-- 'overseerlaw21.RequirementWords': WHATEVER THE INPUT: true; the input reads as it did. -/
def requirementWordsSpec : ChangeSpec := { name := "requirementWords", fn := fun _ => fun
  | [d1, d2] => { results := [.lit (.bool true)], args := [d1, d2] }
  | _ => none }
def requirementWordsRow : OpenClaim := { program := "ytnmmhhnhjdglhaa", sum := "5704444c99a1217e6d47b08155b7f3c88a588f681403188820fa71901353f3fa", func := "overseer/overseerlaw21.RequirementWords", spec := "requirementWords", unfollowed := true, recurses := true, apart := false }
def RequirementWordsSaid : Prop := requirementWordsRow.holds Try.pinned (OpenSpec.ofChange requirementWordsSpec)

/-- ITS FALSE NEIGHBOUR: 'it returns false'. Refute it at one input. -/
def requirementWordsWrong : ChangeSpec := { name := "requirementWords", fn := fun _ => fun
  | [d1, d2] => { results := [.lit (.bool false)], args := [d1, d2] }
  | _ => none }
def RequirementWordsWrongFalsely : Prop := requirementWordsRow.holds Try.pinned (OpenSpec.ofChange requirementWordsWrong)

/-- 'overseerlaw21.RequirementAsks': WHATEVER THE INPUT: true; the input reads as it did. -/
def requirementAsksSpec : ChangeSpec := { name := "requirementAsks", fn := fun _ => fun
  | [d] => { results := [.lit (.bool true)], args := [d] }
  | _ => none }
def requirementAsksRow : OpenClaim := { program := "ytnmmhhnhjdglhaa", sum := "5704444c99a1217e6d47b08155b7f3c88a588f681403188820fa71901353f3fa", func := "overseer/overseerlaw21.RequirementAsks", spec := "requirementAsks", unfollowed := true, recurses := true, apart := false }
def RequirementAsksSaid : Prop := requirementAsksRow.holds Try.pinned (OpenSpec.ofChange requirementAsksSpec)

/-- ITS FALSE NEIGHBOUR: 'it returns false'. Refute it at one input. -/
def requirementAsksWrong : ChangeSpec := { name := "requirementAsks", fn := fun _ => fun
  | [d] => { results := [.lit (.bool false)], args := [d] }
  | _ => none }
def RequirementAsksWrongFalsely : Prop := requirementAsksRow.holds Try.pinned (OpenSpec.ofChange requirementAsksWrong)

/-- 'overseerlaw21.RequirementWidens': WHATEVER THE INPUT: true; the input reads as it did. -/
def requirementWidensSpec : ChangeSpec := { name := "requirementWidens", fn := fun _ => fun
  | [d1, d2, d3] => { results := [.lit (.bool true)], args := [d1, d2, d3] }
  | _ => none }
def requirementWidensRow : OpenClaim := { program := "ytnmmhhnhjdglhaa", sum := "5704444c99a1217e6d47b08155b7f3c88a588f681403188820fa71901353f3fa", func := "overseer/overseerlaw21.RequirementWidens", spec := "requirementWidens", unfollowed := true, recurses := true, apart := false }
def RequirementWidensSaid : Prop := requirementWidensRow.holds Try.pinned (OpenSpec.ofChange requirementWidensSpec)

/-- ITS FALSE NEIGHBOUR: 'it returns false'. Refute it at one input. -/
def requirementWidensWrong : ChangeSpec := { name := "requirementWidens", fn := fun _ => fun
  | [d1, d2, d3] => { results := [.lit (.bool false)], args := [d1, d2, d3] }
  | _ => none }
def RequirementWidensWrongFalsely : Prop := requirementWidensRow.holds Try.pinned (OpenSpec.ofChange requirementWidensWrong)

/- THE SECOND FORM. 'bulk': how many values and letters a reading holds, each counted each time it is reached (what is shared counts as often as it is met; a slice's spare places count too). A statement '..UptoSaid' is the law's where the arguments, and the package variables that the reading takes, are together of bulk at most 1048576: NARROWER than '..Said'. Prove '..Said' where nothing that the law and all that it calls make is longer than what came in: it says more and counts as full. Else prove '..UptoSaid'. A law counts once. -/
mutual
def uptoBulk {H : Type} : DataW H → Nat
  | .lit (.string bytes) => bytes.length + 1
  | .lit _ => 1
  | .nil => 1
  | .ptr d => uptoBulk d + 1
  | .slice elems spare => uptoBulkAll elems + uptoBulkAll spare + 1
  | .agg parts => uptoBulkAll parts + 1
  | .iface _ d => uptoBulk d + 1
  | .map entries => uptoBulkEntries entries + 1
  | .held _ => 1
def uptoBulkAll {H : Type} : List (DataW H) → Nat
  | [] => 0
  | d :: r => uptoBulk d + uptoBulkAll r
def uptoBulkEntries {H : Type} : List (Lit × DataW H) → Nat
  | [] => 0
  | x :: r => uptoBulkEntry x + uptoBulkEntries r
def uptoBulkEntry {H : Type} : Lit × DataW H → Nat
  | (.string bytes, d) => bytes.length + uptoBulk d + 1
  | (_, d) => uptoBulk d + 1
 end
def uptoSmall : (H : Type) → List (DataW H) → Bool := fun _ ds => decide (uptoBulkAll ds ≤ 1048576)
def OpenSpec.upto (s : _root_.Go.ChangeSpec) : _root_.Go.OpenSpec := { _root_.Go.OpenSpec.ofChange s with cond := some uptoSmall }

/-- 'overseerlaw21.RequirementPhases', WHERE WHAT IT READS IS OF BULK AT MOST 1048576: true; the input reads as it did. -/
def requirementPhasesUptoRow : OpenClaim := { program := "ytnmmhhnhjdglhaa", sum := "5704444c99a1217e6d47b08155b7f3c88a588f681403188820fa71901353f3fa", func := "overseer/overseerlaw21.RequirementPhases", spec := "requirementPhases", unfollowed := true, recurses := true, apart := false, narrowed := true }
def RequirementPhasesUptoSaid : Prop := requirementPhasesUptoRow.holds Try.pinned (OpenSpec.upto requirementPhasesSpec)

/-- 'overseerlaw21.RequirementBuffers', WHERE WHAT IT READS IS OF BULK AT MOST 1048576: true; the input reads as it did. -/
def requirementBuffersUptoRow : OpenClaim := { program := "ytnmmhhnhjdglhaa", sum := "5704444c99a1217e6d47b08155b7f3c88a588f681403188820fa71901353f3fa", func := "overseer/overseerlaw21.RequirementBuffers", spec := "requirementBuffers", unfollowed := true, recurses := true, apart := false, narrowed := true }
def RequirementBuffersUptoSaid : Prop := requirementBuffersUptoRow.holds Try.pinned (OpenSpec.upto requirementBuffersSpec)

/-- 'overseerlaw21.RequirementPrecedes', WHERE WHAT IT READS IS OF BULK AT MOST 1048576: true; the input reads as it did. -/
def requirementPrecedesUptoRow : OpenClaim := { program := "ytnmmhhnhjdglhaa", sum := "5704444c99a1217e6d47b08155b7f3c88a588f681403188820fa71901353f3fa", func := "overseer/overseerlaw21.RequirementPrecedes", spec := "requirementPrecedes", unfollowed := true, recurses := true, apart := false, narrowed := true }
def RequirementPrecedesUptoSaid : Prop := requirementPrecedesUptoRow.holds Try.pinned (OpenSpec.upto requirementPrecedesSpec)

/-- 'overseerlaw21.RequirementBetween', WHERE WHAT IT READS IS OF BULK AT MOST 1048576: true; the input reads as it did. -/
def requirementBetweenUptoRow : OpenClaim := { program := "ytnmmhhnhjdglhaa", sum := "5704444c99a1217e6d47b08155b7f3c88a588f681403188820fa71901353f3fa", func := "overseer/overseerlaw21.RequirementBetween", spec := "requirementBetween", unfollowed := true, recurses := true, apart := false, narrowed := true }
def RequirementBetweenUptoSaid : Prop := requirementBetweenUptoRow.holds Try.pinned (OpenSpec.upto requirementBetweenSpec)

/-- 'overseerlaw21.RequirementWords', WHERE WHAT IT READS IS OF BULK AT MOST 1048576: true; the input reads as it did. -/
def requirementWordsUptoRow : OpenClaim := { program := "ytnmmhhnhjdglhaa", sum := "5704444c99a1217e6d47b08155b7f3c88a588f681403188820fa71901353f3fa", func := "overseer/overseerlaw21.RequirementWords", spec := "requirementWords", unfollowed := true, recurses := true, apart := false, narrowed := true }
def RequirementWordsUptoSaid : Prop := requirementWordsUptoRow.holds Try.pinned (OpenSpec.upto requirementWordsSpec)

/-- 'overseerlaw21.RequirementAsks', WHERE WHAT IT READS IS OF BULK AT MOST 1048576: true; the input reads as it did. -/
def requirementAsksUptoRow : OpenClaim := { program := "ytnmmhhnhjdglhaa", sum := "5704444c99a1217e6d47b08155b7f3c88a588f681403188820fa71901353f3fa", func := "overseer/overseerlaw21.RequirementAsks", spec := "requirementAsks", unfollowed := true, recurses := true, apart := false, narrowed := true }
def RequirementAsksUptoSaid : Prop := requirementAsksUptoRow.holds Try.pinned (OpenSpec.upto requirementAsksSpec)

/-- 'overseerlaw21.RequirementWidens', WHERE WHAT IT READS IS OF BULK AT MOST 1048576: true; the input reads as it did. -/
def requirementWidensUptoRow : OpenClaim := { program := "ytnmmhhnhjdglhaa", sum := "5704444c99a1217e6d47b08155b7f3c88a588f681403188820fa71901353f3fa", func := "overseer/overseerlaw21.RequirementWidens", spec := "requirementWidens", unfollowed := true, recurses := true, apart := false, narrowed := true }
def RequirementWidensUptoSaid : Prop := requirementWidensUptoRow.holds Try.pinned (OpenSpec.upto requirementWidensSpec)

end Rows
end Go.Proofs.Ytnmmhhnhjdglhaa
