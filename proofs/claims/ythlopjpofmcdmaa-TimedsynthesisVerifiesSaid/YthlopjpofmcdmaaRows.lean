/-
  No cell of these rows narrows 'for every input' (looked for: loops, veiled, ifaces, maps, wideKeys, modest, calm, conditions, laid).
  DERIVED. THE GIVEN ROWS OF THIS SEAT. 6 by the template 'for every input the law returns true; each argument reads behind the call as it read before'; 0 by the template 'total and deterministic' (their statements: YthlopjpofmcdmaaTotals.lean).
  GIVEN WITH THE SEED: the statements are not yours to turn. If you find one false, say at which input.
  Laid BY PROGRAM, IN A SANDBOX (cutbox-rows.mjs): the forced cells as the released guide's own fill.sh prints them over the translation 0f9dbfbc06488c37… (all of the seat's roots in one cut). By AI agents, Wed Nov 11 2026. No macro, syntax, notation, axiom, sorry.
-/
import Derived.Test.YthlopjpofmcdmaaChecked
import GoSem.Claim
import GoSem.ClaimJoined
import GoSem.ClaimMapViews
import Derived.JoinedTies
import Derived.KernelRfl
namespace Go.Proofs.Ythlopjpofmcdmaa
/- THE CELL 'sum', in the pinned program and in every row, IS THE sha256 OF THE DUMP (.gsa) THAT YthlopjpofmcdmaaProg.lean LOADS. Nothing in Lean hashes anything: it is a label: what it is worth is what the hold of that sum in a sandbox is worth. -/
noncomputable def Try.pinned : Pinned := { name := "ythlopjpofmcdmaa", sum := "0f9dbfbc06488c3793d6c215d077b824119bc76a9197004336ed49df0ee6eacc", checked := Try.checked }
namespace Rows
def none {H : Type} : Left H := { results := [], args := [] }

/-- 'overseerlaw46.TimedsynthesisSolves': WHATEVER THE INPUT: true; the input reads as it did. -/
def timedsynthesisSolvesSpec : ChangeSpec := { name := "timedsynthesisSolves", fn := fun _ => fun
  | [d] => { results := [.lit (.bool true)], args := [d] }
  | _ => none }
def timedsynthesisSolvesRow : OpenClaim := { program := "ythlopjpofmcdmaa", sum := "0f9dbfbc06488c3793d6c215d077b824119bc76a9197004336ed49df0ee6eacc", func := "overseer/overseerlaw46.TimedsynthesisSolves", spec := "timedsynthesisSolves", unfollowed := true, recurses := true, apart := false }
def TimedsynthesisSolvesSaid : Prop := timedsynthesisSolvesRow.holds Try.pinned (OpenSpec.ofChange timedsynthesisSolvesSpec)

/-- ITS FALSE NEIGHBOUR: 'it returns false'. Refute it at one input. -/
def timedsynthesisSolvesWrong : ChangeSpec := { name := "timedsynthesisSolves", fn := fun _ => fun
  | [d] => { results := [.lit (.bool false)], args := [d] }
  | _ => none }
def TimedsynthesisSolvesWrongFalsely : Prop := timedsynthesisSolvesRow.holds Try.pinned (OpenSpec.ofChange timedsynthesisSolvesWrong)

/-- 'overseerlaw46.TimedsynthesisDeadlines': WHATEVER THE INPUT: true; the input reads as it did. -/
def timedsynthesisDeadlinesSpec : ChangeSpec := { name := "timedsynthesisDeadlines", fn := fun _ => fun
  | [d1, d2, d3] => { results := [.lit (.bool true)], args := [d1, d2, d3] }
  | _ => none }
def timedsynthesisDeadlinesRow : OpenClaim := { program := "ythlopjpofmcdmaa", sum := "0f9dbfbc06488c3793d6c215d077b824119bc76a9197004336ed49df0ee6eacc", func := "overseer/overseerlaw46.TimedsynthesisDeadlines", spec := "timedsynthesisDeadlines", unfollowed := true, recurses := true, apart := false }
def TimedsynthesisDeadlinesSaid : Prop := timedsynthesisDeadlinesRow.holds Try.pinned (OpenSpec.ofChange timedsynthesisDeadlinesSpec)

/-- ITS FALSE NEIGHBOUR: 'it returns false'. Refute it at one input. -/
def timedsynthesisDeadlinesWrong : ChangeSpec := { name := "timedsynthesisDeadlines", fn := fun _ => fun
  | [d1, d2, d3] => { results := [.lit (.bool false)], args := [d1, d2, d3] }
  | _ => none }
def TimedsynthesisDeadlinesWrongFalsely : Prop := timedsynthesisDeadlinesRow.holds Try.pinned (OpenSpec.ofChange timedsynthesisDeadlinesWrong)

/-- 'overseerlaw46.TimedsynthesisGreatest': WHATEVER THE INPUT: true; the input reads as it did. -/
def timedsynthesisGreatestSpec : ChangeSpec := { name := "timedsynthesisGreatest", fn := fun _ => fun
  | [d] => { results := [.lit (.bool true)], args := [d] }
  | _ => none }
def timedsynthesisGreatestRow : OpenClaim := { program := "ythlopjpofmcdmaa", sum := "0f9dbfbc06488c3793d6c215d077b824119bc76a9197004336ed49df0ee6eacc", func := "overseer/overseerlaw46.TimedsynthesisGreatest", spec := "timedsynthesisGreatest", unfollowed := true, recurses := true, apart := false }
def TimedsynthesisGreatestSaid : Prop := timedsynthesisGreatestRow.holds Try.pinned (OpenSpec.ofChange timedsynthesisGreatestSpec)

/-- ITS FALSE NEIGHBOUR: 'it returns false'. Refute it at one input. -/
def timedsynthesisGreatestWrong : ChangeSpec := { name := "timedsynthesisGreatest", fn := fun _ => fun
  | [d] => { results := [.lit (.bool false)], args := [d] }
  | _ => none }
def TimedsynthesisGreatestWrongFalsely : Prop := timedsynthesisGreatestRow.holds Try.pinned (OpenSpec.ofChange timedsynthesisGreatestWrong)

/-- 'overseerlaw46.TimedsynthesisVerifies': WHATEVER THE INPUT: true; the input reads as it did. -/
def timedsynthesisVerifiesSpec : ChangeSpec := { name := "timedsynthesisVerifies", fn := fun _ => fun
  | [d1, d2] => { results := [.lit (.bool true)], args := [d1, d2] }
  | _ => none }
def timedsynthesisVerifiesRow : OpenClaim := { program := "ythlopjpofmcdmaa", sum := "0f9dbfbc06488c3793d6c215d077b824119bc76a9197004336ed49df0ee6eacc", func := "overseer/overseerlaw46.TimedsynthesisVerifies", spec := "timedsynthesisVerifies", unfollowed := true, recurses := true, apart := false }
def TimedsynthesisVerifiesSaid : Prop := timedsynthesisVerifiesRow.holds Try.pinned (OpenSpec.ofChange timedsynthesisVerifiesSpec)

/-- ITS FALSE NEIGHBOUR: 'it returns false'. Refute it at one input. -/
def timedsynthesisVerifiesWrong : ChangeSpec := { name := "timedsynthesisVerifies", fn := fun _ => fun
  | [d1, d2] => { results := [.lit (.bool false)], args := [d1, d2] }
  | _ => none }
def TimedsynthesisVerifiesWrongFalsely : Prop := timedsynthesisVerifiesRow.holds Try.pinned (OpenSpec.ofChange timedsynthesisVerifiesWrong)

/-- 'overseerlaw46.TimedsynthesisErrors': WHATEVER THE INPUT: true; the input reads as it did. -/
def timedsynthesisErrorsSpec : ChangeSpec := { name := "timedsynthesisErrors", fn := fun _ => fun
  | [d1, d2] => { results := [.lit (.bool true)], args := [d1, d2] }
  | _ => none }
def timedsynthesisErrorsRow : OpenClaim := { program := "ythlopjpofmcdmaa", sum := "0f9dbfbc06488c3793d6c215d077b824119bc76a9197004336ed49df0ee6eacc", func := "overseer/overseerlaw46.TimedsynthesisErrors", spec := "timedsynthesisErrors", unfollowed := true, recurses := true, apart := false }
def TimedsynthesisErrorsSaid : Prop := timedsynthesisErrorsRow.holds Try.pinned (OpenSpec.ofChange timedsynthesisErrorsSpec)

/-- ITS FALSE NEIGHBOUR: 'it returns false'. Refute it at one input. -/
def timedsynthesisErrorsWrong : ChangeSpec := { name := "timedsynthesisErrors", fn := fun _ => fun
  | [d1, d2] => { results := [.lit (.bool false)], args := [d1, d2] }
  | _ => none }
def TimedsynthesisErrorsWrongFalsely : Prop := timedsynthesisErrorsRow.holds Try.pinned (OpenSpec.ofChange timedsynthesisErrorsWrong)

/-- 'overseerlaw46.TimedsynthesisMore': WHATEVER THE INPUT: true; the input reads as it did. -/
def timedsynthesisMoreSpec : ChangeSpec := { name := "timedsynthesisMore", fn := fun _ => fun
  | [d1, d2, d3] => { results := [.lit (.bool true)], args := [d1, d2, d3] }
  | _ => none }
def timedsynthesisMoreRow : OpenClaim := { program := "ythlopjpofmcdmaa", sum := "0f9dbfbc06488c3793d6c215d077b824119bc76a9197004336ed49df0ee6eacc", func := "overseer/overseerlaw46.TimedsynthesisMore", spec := "timedsynthesisMore", unfollowed := true, recurses := true, apart := false }
def TimedsynthesisMoreSaid : Prop := timedsynthesisMoreRow.holds Try.pinned (OpenSpec.ofChange timedsynthesisMoreSpec)

/-- ITS FALSE NEIGHBOUR: 'it returns false'. Refute it at one input. -/
def timedsynthesisMoreWrong : ChangeSpec := { name := "timedsynthesisMore", fn := fun _ => fun
  | [d1, d2, d3] => { results := [.lit (.bool false)], args := [d1, d2, d3] }
  | _ => none }
def TimedsynthesisMoreWrongFalsely : Prop := timedsynthesisMoreRow.holds Try.pinned (OpenSpec.ofChange timedsynthesisMoreWrong)

/- THE SECOND FORM. 'bulk': how many values and letters a reading holds, each counted each time it is reached (what is shared counts as often as it is met; a slice's spare places count too). A statement '..UptoSaid' is the law's where the arguments, and the package variables that the reading takes, are together of bulk at most 1048576: NARROWER than '..Said'. Prove '..Said' where nothing that the law and all that it calls make is longer than what came in: it says more and counts as full. Else prove '..UptoSaid'. A law counts once. -/
mutual
def uptoBulk {H : Type} : DataW H → Nat
  | .lit (.string bytes) => bytes.length + 1
  | .lit _ => 1
  | .nil => 1
  | .ptr d => uptoBulk d + 1
  | .slice elems spare => uptoBulkAll elems + uptoBulkAll spare + 1
  | .agg parts => uptoBulkAll parts + 1
  | .iface _ d => uptoBulk d + 1
  | .map entries => uptoBulkEntries entries + 1
  | .held _ => 1
def uptoBulkAll {H : Type} : List (DataW H) → Nat
  | [] => 0
  | d :: r => uptoBulk d + uptoBulkAll r
def uptoBulkEntries {H : Type} : List (Lit × DataW H) → Nat
  | [] => 0
  | x :: r => uptoBulkEntry x + uptoBulkEntries r
def uptoBulkEntry {H : Type} : Lit × DataW H → Nat
  | (.string bytes, d) => bytes.length + uptoBulk d + 1
  | (_, d) => uptoBulk d + 1
 end
def uptoSmall : (H : Type) → List (DataW H) → Bool := fun _ ds => decide (uptoBulkAll ds ≤ 1048576)
def OpenSpec.upto (s : _root_.Go.ChangeSpec) : _root_.Go.OpenSpec := { _root_.Go.OpenSpec.ofChange s with cond := some uptoSmall }

/-- 'overseerlaw46.TimedsynthesisSolves', WHERE WHAT IT READS IS OF BULK AT MOST 1048576: true; the input reads as it did. -/
def timedsynthesisSolvesUptoRow : OpenClaim := { program := "ythlopjpofmcdmaa", sum := "0f9dbfbc06488c3793d6c215d077b824119bc76a9197004336ed49df0ee6eacc", func := "overseer/overseerlaw46.TimedsynthesisSolves", spec := "timedsynthesisSolves", unfollowed := true, recurses := true, apart := false, narrowed := true }
def TimedsynthesisSolvesUptoSaid : Prop := timedsynthesisSolvesUptoRow.holds Try.pinned (OpenSpec.upto timedsynthesisSolvesSpec)

/-- 'overseerlaw46.TimedsynthesisDeadlines', WHERE WHAT IT READS IS OF BULK AT MOST 1048576: true; the input reads as it did. -/
def timedsynthesisDeadlinesUptoRow : OpenClaim := { program := "ythlopjpofmcdmaa", sum := "0f9dbfbc06488c3793d6c215d077b824119bc76a9197004336ed49df0ee6eacc", func := "overseer/overseerlaw46.TimedsynthesisDeadlines", spec := "timedsynthesisDeadlines", unfollowed := true, recurses := true, apart := false, narrowed := true }
def TimedsynthesisDeadlinesUptoSaid : Prop := timedsynthesisDeadlinesUptoRow.holds Try.pinned (OpenSpec.upto timedsynthesisDeadlinesSpec)

/-- 'overseerlaw46.TimedsynthesisGreatest', WHERE WHAT IT READS IS OF BULK AT MOST 1048576: true; the input reads as it did. -/
def timedsynthesisGreatestUptoRow : OpenClaim := { program := "ythlopjpofmcdmaa", sum := "0f9dbfbc06488c3793d6c215d077b824119bc76a9197004336ed49df0ee6eacc", func := "overseer/overseerlaw46.TimedsynthesisGreatest", spec := "timedsynthesisGreatest", unfollowed := true, recurses := true, apart := false, narrowed := true }
def TimedsynthesisGreatestUptoSaid : Prop := timedsynthesisGreatestUptoRow.holds Try.pinned (OpenSpec.upto timedsynthesisGreatestSpec)

/-- 'overseerlaw46.TimedsynthesisVerifies', WHERE WHAT IT READS IS OF BULK AT MOST 1048576: true; the input reads as it did. -/
def timedsynthesisVerifiesUptoRow : OpenClaim := { program := "ythlopjpofmcdmaa", sum := "0f9dbfbc06488c3793d6c215d077b824119bc76a9197004336ed49df0ee6eacc", func := "overseer/overseerlaw46.TimedsynthesisVerifies", spec := "timedsynthesisVerifies", unfollowed := true, recurses := true, apart := false, narrowed := true }
def TimedsynthesisVerifiesUptoSaid : Prop := timedsynthesisVerifiesUptoRow.holds Try.pinned (OpenSpec.upto timedsynthesisVerifiesSpec)

/-- 'overseerlaw46.TimedsynthesisErrors', WHERE WHAT IT READS IS OF BULK AT MOST 1048576: true; the input reads as it did. -/
def timedsynthesisErrorsUptoRow : OpenClaim := { program := "ythlopjpofmcdmaa", sum := "0f9dbfbc06488c3793d6c215d077b824119bc76a9197004336ed49df0ee6eacc", func := "overseer/overseerlaw46.TimedsynthesisErrors", spec := "timedsynthesisErrors", unfollowed := true, recurses := true, apart := false, narrowed := true }
def TimedsynthesisErrorsUptoSaid : Prop := timedsynthesisErrorsUptoRow.holds Try.pinned (OpenSpec.upto timedsynthesisErrorsSpec)

/-- 'overseerlaw46.TimedsynthesisMore', WHERE WHAT IT READS IS OF BULK AT MOST 1048576: true; the input reads as it did. -/
def timedsynthesisMoreUptoRow : OpenClaim := { program := "ythlopjpofmcdmaa", sum := "0f9dbfbc06488c3793d6c215d077b824119bc76a9197004336ed49df0ee6eacc", func := "overseer/overseerlaw46.TimedsynthesisMore", spec := "timedsynthesisMore", unfollowed := true, recurses := true, apart := false, narrowed := true }
def TimedsynthesisMoreUptoSaid : Prop := timedsynthesisMoreUptoRow.holds Try.pinned (OpenSpec.upto timedsynthesisMoreSpec)

end Rows
end Go.Proofs.Ythlopjpofmcdmaa
