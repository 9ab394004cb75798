/-
  NARROWER THAN 'FOR EVERY INPUT', by the rows' own cells (each row's printed sentence says how): DegradedPermits: laid · DegradedSwitches: laid · DegradedFaultless: laid · DegradedKeeps: laid · DegradedChecks: laid.
  DERIVED. THE GIVEN ROWS OF THIS SEAT. 5 by the template 'for every input the law returns true; each argument reads behind the call as it read before'; 0 by the template 'total and deterministic' (their statements: YtccapdeoaoiieaaGreatDoorTotals.lean).
  GIVEN WITH THE SEED: the statements are not yours to turn. If you find one false, say at which input.
  Laid BY PROGRAM, IN A SANDBOX (cutbox-rows.mjs): the forced cells as the released guide's own fill.sh prints them over the translation bd7a410f020a18cd… (all of the seat's roots in one cut). By AI agents, Wed Nov 11 2026. No macro, syntax, notation, axiom, sorry.
-/
import Derived.Test.YtccapdeoaoiieaaGreatDoorChecked
import GoSem.Claim
import GoSem.ClaimJoined
import GoSem.ClaimMapViews
import Derived.JoinedTies
import Derived.KernelRfl
namespace Go.Proofs.YtccapdeoaoiieaaGreatDoor
/- THE CELL 'sum', in the pinned program and in every row, IS THE sha256 OF THE DUMP (.gsa) THAT YtccapdeoaoiieaaGreatDoorProg.lean LOADS. Nothing in Lean hashes anything: it is a label: what it is worth is what the hold of that sum in a sandbox is worth. -/
noncomputable def Tryz.pinned : Pinned := { name := "ytccapdeoaoiieaagreatdoor", sum := "bd7a410f020a18cd925cdad3fcd4ea22e248594b00a87b83eb2130a75e41b370", checked := Tryz.checked }
namespace Rows
def none {H : Type} : Left H := { results := [], args := [] }

/- WHAT THE LISTED PACKAGE-LEVEL VARIABLES READ AS WHEN THE CALL BEGINS. Each datum BY PROGRAM (the guide's laid-datum.mjs) off the statement by which the dump's own 'gosem.cut.vars' lays the variable. In a bare row this is a premise. The card (YtccapdeoaoiieaaGreatDoorCards.lean) ties it to the program's text. -/
def laid_math_bits_deBruijn32tab {H : Type} : DataW H := .agg [.lit (.int .u8 0), .lit (.int .u8 1), .lit (.int .u8 28), .lit (.int .u8 2), .lit (.int .u8 29), .lit (.int .u8 14), .lit (.int .u8 24), .lit (.int .u8 3), .lit (.int .u8 30), .lit (.int .u8 22), .lit (.int .u8 20), .lit (.int .u8 15), .lit (.int .u8 25), .lit (.int .u8 17), .lit (.int .u8 4), .lit (.int .u8 8), .lit (.int .u8 31), .lit (.int .u8 27), .lit (.int .u8 13), .lit (.int .u8 23), .lit (.int .u8 21), .lit (.int .u8 19), .lit (.int .u8 16), .lit (.int .u8 7), .lit (.int .u8 26), .lit (.int .u8 12), .lit (.int .u8 18), .lit (.int .u8 6), .lit (.int .u8 11), .lit (.int .u8 5), .lit (.int .u8 10), .lit (.int .u8 9)]
def laid_math_bits_deBruijn64tab {H : Type} : DataW H := .agg [.lit (.int .u8 0), .lit (.int .u8 1), .lit (.int .u8 56), .lit (.int .u8 2), .lit (.int .u8 57), .lit (.int .u8 49), .lit (.int .u8 28), .lit (.int .u8 3), .lit (.int .u8 61), .lit (.int .u8 58), .lit (.int .u8 42), .lit (.int .u8 50), .lit (.int .u8 38), .lit (.int .u8 29), .lit (.int .u8 17), .lit (.int .u8 4), .lit (.int .u8 62), .lit (.int .u8 47), .lit (.int .u8 59), .lit (.int .u8 36), .lit (.int .u8 45), .lit (.int .u8 43), .lit (.int .u8 51), .lit (.int .u8 22), .lit (.int .u8 53), .lit (.int .u8 39), .lit (.int .u8 33), .lit (.int .u8 30), .lit (.int .u8 24), .lit (.int .u8 18), .lit (.int .u8 12), .lit (.int .u8 5), .lit (.int .u8 63), .lit (.int .u8 55), .lit (.int .u8 48), .lit (.int .u8 27), .lit (.int .u8 60), .lit (.int .u8 41), .lit (.int .u8 37), .lit (.int .u8 16), .lit (.int .u8 46), .lit (.int .u8 35), .lit (.int .u8 44), .lit (.int .u8 21), .lit (.int .u8 52), .lit (.int .u8 32), .lit (.int .u8 23), .lit (.int .u8 11), .lit (.int .u8 54), .lit (.int .u8 26), .lit (.int .u8 40), .lit (.int .u8 15), .lit (.int .u8 34), .lit (.int .u8 20), .lit (.int .u8 31), .lit (.int .u8 10), .lit (.int .u8 25), .lit (.int .u8 14), .lit (.int .u8 19), .lit (.int .u8 9), .lit (.int .u8 13), .lit (.int .u8 8), .lit (.int .u8 7), .lit (.int .u8 6)]
def laid_internal_strconv_uint64pow10 {H : Type} : DataW H := .agg [.lit (.int .u64 1), .lit (.int .u64 10), .lit (.int .u64 100), .lit (.int .u64 1000), .lit (.int .u64 10000), .lit (.int .u64 100000), .lit (.int .u64 1000000), .lit (.int .u64 10000000), .lit (.int .u64 100000000), .lit (.int .u64 1000000000), .lit (.int .u64 10000000000), .lit (.int .u64 100000000000), .lit (.int .u64 1000000000000), .lit (.int .u64 10000000000000), .lit (.int .u64 100000000000000), .lit (.int .u64 1000000000000000), .lit (.int .u64 10000000000000000), .lit (.int .u64 100000000000000000), .lit (.int .u64 1000000000000000000), .lit (.int .u64 10000000000000000000)]

/-- 'overseerlaw43.DegradedPermits': WHATEVER THE INPUT: true; the input reads as it did. -/
def degradedPermitsSpec : ChangeSpec := { name := "degradedPermits", fn := fun _ => fun
  | [d1, d2] => { results := [.lit (.bool true)], args := [d1, d2] }
  | _ => none }
def degradedPermitsRow : OpenClaim := { program := "ytccapdeoaoiieaagreatdoor", sum := "bd7a410f020a18cd925cdad3fcd4ea22e248594b00a87b83eb2130a75e41b370", func := "overseer/overseerlaw43.DegradedPermits", spec := "degradedPermits", inPlace := ["internal/abi.NoEscape"], unfollowed := true, recurses := true, named := ["internal/strconv.uint64pow10", "math/bits.deBruijn32tab", "math/bits.deBruijn64tab"], plainKeys := false, apart := false, laid := [("math/bits.deBruijn32tab", laid_math_bits_deBruijn32tab), ("math/bits.deBruijn64tab", laid_math_bits_deBruijn64tab), ("internal/strconv.uint64pow10", laid_internal_strconv_uint64pow10)] }
def DegradedPermitsSaid : Prop := degradedPermitsRow.holds Tryz.pinned (OpenSpec.ofChange degradedPermitsSpec)

/-- ITS FALSE NEIGHBOUR: 'it returns false'. Refute it at one input. -/
def degradedPermitsWrong : ChangeSpec := { name := "degradedPermits", fn := fun _ => fun
  | [d1, d2] => { results := [.lit (.bool false)], args := [d1, d2] }
  | _ => none }
def DegradedPermitsWrongFalsely : Prop := degradedPermitsRow.holds Tryz.pinned (OpenSpec.ofChange degradedPermitsWrong)

/-- 'overseerlaw43.DegradedSwitches': WHATEVER THE INPUT: true; the input reads as it did. -/
def degradedSwitchesSpec : ChangeSpec := { name := "degradedSwitches", fn := fun _ => fun
  | [d] => { results := [.lit (.bool true)], args := [d] }
  | _ => none }
def degradedSwitchesRow : OpenClaim := { program := "ytccapdeoaoiieaagreatdoor", sum := "bd7a410f020a18cd925cdad3fcd4ea22e248594b00a87b83eb2130a75e41b370", func := "overseer/overseerlaw43.DegradedSwitches", spec := "degradedSwitches", inPlace := ["internal/abi.NoEscape"], unfollowed := true, recurses := true, named := ["internal/strconv.uint64pow10", "math/bits.deBruijn32tab", "math/bits.deBruijn64tab"], plainKeys := false, apart := false, laid := [("math/bits.deBruijn32tab", laid_math_bits_deBruijn32tab), ("math/bits.deBruijn64tab", laid_math_bits_deBruijn64tab), ("internal/strconv.uint64pow10", laid_internal_strconv_uint64pow10)] }
def DegradedSwitchesSaid : Prop := degradedSwitchesRow.holds Tryz.pinned (OpenSpec.ofChange degradedSwitchesSpec)

/-- ITS FALSE NEIGHBOUR: 'it returns false'. Refute it at one input. -/
def degradedSwitchesWrong : ChangeSpec := { name := "degradedSwitches", fn := fun _ => fun
  | [d] => { results := [.lit (.bool false)], args := [d] }
  | _ => none }
def DegradedSwitchesWrongFalsely : Prop := degradedSwitchesRow.holds Tryz.pinned (OpenSpec.ofChange degradedSwitchesWrong)

/-- 'overseerlaw43.DegradedFaultless': WHATEVER THE INPUT: true; the input reads as it did. -/
def degradedFaultlessSpec : ChangeSpec := { name := "degradedFaultless", fn := fun _ => fun
  | [d1, d2] => { results := [.lit (.bool true)], args := [d1, d2] }
  | _ => none }
def degradedFaultlessRow : OpenClaim := { program := "ytccapdeoaoiieaagreatdoor", sum := "bd7a410f020a18cd925cdad3fcd4ea22e248594b00a87b83eb2130a75e41b370", func := "overseer/overseerlaw43.DegradedFaultless", spec := "degradedFaultless", inPlace := ["internal/abi.NoEscape"], unfollowed := true, recurses := true, named := ["internal/strconv.uint64pow10", "math/bits.deBruijn32tab", "math/bits.deBruijn64tab"], plainKeys := false, apart := false, laid := [("math/bits.deBruijn32tab", laid_math_bits_deBruijn32tab), ("math/bits.deBruijn64tab", laid_math_bits_deBruijn64tab), ("internal/strconv.uint64pow10", laid_internal_strconv_uint64pow10)] }
def DegradedFaultlessSaid : Prop := degradedFaultlessRow.holds Tryz.pinned (OpenSpec.ofChange degradedFaultlessSpec)

/-- ITS FALSE NEIGHBOUR: 'it returns false'. Refute it at one input. -/
def degradedFaultlessWrong : ChangeSpec := { name := "degradedFaultless", fn := fun _ => fun
  | [d1, d2] => { results := [.lit (.bool false)], args := [d1, d2] }
  | _ => none }
def DegradedFaultlessWrongFalsely : Prop := degradedFaultlessRow.holds Tryz.pinned (OpenSpec.ofChange degradedFaultlessWrong)

/-- 'overseerlaw43.DegradedKeeps': WHATEVER THE INPUT: true; the input reads as it did. -/
def degradedKeepsSpec : ChangeSpec := { name := "degradedKeeps", fn := fun _ => fun
  | [d1, d2] => { results := [.lit (.bool true)], args := [d1, d2] }
  | _ => none }
def degradedKeepsRow : OpenClaim := { program := "ytccapdeoaoiieaagreatdoor", sum := "bd7a410f020a18cd925cdad3fcd4ea22e248594b00a87b83eb2130a75e41b370", func := "overseer/overseerlaw43.DegradedKeeps", spec := "degradedKeeps", inPlace := ["internal/abi.NoEscape"], unfollowed := true, recurses := true, named := ["internal/strconv.uint64pow10", "math/bits.deBruijn32tab", "math/bits.deBruijn64tab"], plainKeys := false, apart := false, laid := [("math/bits.deBruijn32tab", laid_math_bits_deBruijn32tab), ("math/bits.deBruijn64tab", laid_math_bits_deBruijn64tab), ("internal/strconv.uint64pow10", laid_internal_strconv_uint64pow10)] }
def DegradedKeepsSaid : Prop := degradedKeepsRow.holds Tryz.pinned (OpenSpec.ofChange degradedKeepsSpec)

/-- ITS FALSE NEIGHBOUR: 'it returns false'. Refute it at one input. -/
def degradedKeepsWrong : ChangeSpec := { name := "degradedKeeps", fn := fun _ => fun
  | [d1, d2] => { results := [.lit (.bool false)], args := [d1, d2] }
  | _ => none }
def DegradedKeepsWrongFalsely : Prop := degradedKeepsRow.holds Tryz.pinned (OpenSpec.ofChange degradedKeepsWrong)

/-- 'overseerlaw43.DegradedChecks': WHATEVER THE INPUT: true; the input reads as it did. -/
def degradedChecksSpec : ChangeSpec := { name := "degradedChecks", fn := fun _ => fun
  | [d] => { results := [.lit (.bool true)], args := [d] }
  | _ => none }
def degradedChecksRow : OpenClaim := { program := "ytccapdeoaoiieaagreatdoor", sum := "bd7a410f020a18cd925cdad3fcd4ea22e248594b00a87b83eb2130a75e41b370", func := "overseer/overseerlaw43.DegradedChecks", spec := "degradedChecks", inPlace := ["internal/abi.NoEscape"], unfollowed := true, recurses := true, named := ["internal/strconv.uint64pow10", "math/bits.deBruijn32tab", "math/bits.deBruijn64tab"], plainKeys := false, apart := false, laid := [("math/bits.deBruijn32tab", laid_math_bits_deBruijn32tab), ("math/bits.deBruijn64tab", laid_math_bits_deBruijn64tab), ("internal/strconv.uint64pow10", laid_internal_strconv_uint64pow10)] }
def DegradedChecksSaid : Prop := degradedChecksRow.holds Tryz.pinned (OpenSpec.ofChange degradedChecksSpec)

/-- ITS FALSE NEIGHBOUR: 'it returns false'. Refute it at one input. -/
def degradedChecksWrong : ChangeSpec := { name := "degradedChecks", fn := fun _ => fun
  | [d] => { results := [.lit (.bool false)], args := [d] }
  | _ => none }
def DegradedChecksWrongFalsely : Prop := degradedChecksRow.holds Tryz.pinned (OpenSpec.ofChange degradedChecksWrong)

/- THE SECOND FORM. 'bulk': how many values and letters a reading holds, each counted each time it is reached (what is shared counts as often as it is met; a slice's spare places count too). A statement '..UptoSaid' is the law's where the arguments, and the package variables that the reading takes, are together of bulk at most 1048576: NARROWER than '..Said'. Prove '..Said' where nothing that the law and all that it calls make is longer than what came in: it says more and counts as full. Else prove '..UptoSaid'. A law counts once. -/
mutual
def uptoBulk {H : Type} : DataW H → Nat
  | .lit (.string bytes) => bytes.length + 1
  | .lit _ => 1
  | .nil => 1
  | .ptr d => uptoBulk d + 1
  | .slice elems spare => uptoBulkAll elems + uptoBulkAll spare + 1
  | .agg parts => uptoBulkAll parts + 1
  | .iface _ d => uptoBulk d + 1
  | .map entries => uptoBulkEntries entries + 1
  | .held _ => 1
def uptoBulkAll {H : Type} : List (DataW H) → Nat
  | [] => 0
  | d :: r => uptoBulk d + uptoBulkAll r
def uptoBulkEntries {H : Type} : List (Lit × DataW H) → Nat
  | [] => 0
  | x :: r => uptoBulkEntry x + uptoBulkEntries r
def uptoBulkEntry {H : Type} : Lit × DataW H → Nat
  | (.string bytes, d) => bytes.length + uptoBulk d + 1
  | (_, d) => uptoBulk d + 1
 end
def uptoSmall : (H : Type) → List (DataW H) → Bool := fun _ ds => decide (uptoBulkAll ds ≤ 1048576)
def OpenSpec.upto (s : _root_.Go.ChangeSpec) : _root_.Go.OpenSpec := { _root_.Go.OpenSpec.ofChange s with cond := some uptoSmall }

/-- 'overseerlaw43.DegradedPermits', WHERE WHAT IT READS IS OF BULK AT MOST 1048576: true; the input reads as it did. -/
def degradedPermitsUptoRow : OpenClaim := { program := "ytccapdeoaoiieaagreatdoor", sum := "bd7a410f020a18cd925cdad3fcd4ea22e248594b00a87b83eb2130a75e41b370", func := "overseer/overseerlaw43.DegradedPermits", spec := "degradedPermits", inPlace := ["internal/abi.NoEscape"], unfollowed := true, recurses := true, named := ["internal/strconv.uint64pow10", "math/bits.deBruijn32tab", "math/bits.deBruijn64tab"], plainKeys := false, apart := false, laid := [("math/bits.deBruijn32tab", laid_math_bits_deBruijn32tab), ("math/bits.deBruijn64tab", laid_math_bits_deBruijn64tab), ("internal/strconv.uint64pow10", laid_internal_strconv_uint64pow10)], narrowed := true }
def DegradedPermitsUptoSaid : Prop := degradedPermitsUptoRow.holds Tryz.pinned (OpenSpec.upto degradedPermitsSpec)

/-- 'overseerlaw43.DegradedSwitches', WHERE WHAT IT READS IS OF BULK AT MOST 1048576: true; the input reads as it did. -/
def degradedSwitchesUptoRow : OpenClaim := { program := "ytccapdeoaoiieaagreatdoor", sum := "bd7a410f020a18cd925cdad3fcd4ea22e248594b00a87b83eb2130a75e41b370", func := "overseer/overseerlaw43.DegradedSwitches", spec := "degradedSwitches", inPlace := ["internal/abi.NoEscape"], unfollowed := true, recurses := true, named := ["internal/strconv.uint64pow10", "math/bits.deBruijn32tab", "math/bits.deBruijn64tab"], plainKeys := false, apart := false, laid := [("math/bits.deBruijn32tab", laid_math_bits_deBruijn32tab), ("math/bits.deBruijn64tab", laid_math_bits_deBruijn64tab), ("internal/strconv.uint64pow10", laid_internal_strconv_uint64pow10)], narrowed := true }
def DegradedSwitchesUptoSaid : Prop := degradedSwitchesUptoRow.holds Tryz.pinned (OpenSpec.upto degradedSwitchesSpec)

/-- 'overseerlaw43.DegradedFaultless', WHERE WHAT IT READS IS OF BULK AT MOST 1048576: true; the input reads as it did. -/
def degradedFaultlessUptoRow : OpenClaim := { program := "ytccapdeoaoiieaagreatdoor", sum := "bd7a410f020a18cd925cdad3fcd4ea22e248594b00a87b83eb2130a75e41b370", func := "overseer/overseerlaw43.DegradedFaultless", spec := "degradedFaultless", inPlace := ["internal/abi.NoEscape"], unfollowed := true, recurses := true, named := ["internal/strconv.uint64pow10", "math/bits.deBruijn32tab", "math/bits.deBruijn64tab"], plainKeys := false, apart := false, laid := [("math/bits.deBruijn32tab", laid_math_bits_deBruijn32tab), ("math/bits.deBruijn64tab", laid_math_bits_deBruijn64tab), ("internal/strconv.uint64pow10", laid_internal_strconv_uint64pow10)], narrowed := true }
def DegradedFaultlessUptoSaid : Prop := degradedFaultlessUptoRow.holds Tryz.pinned (OpenSpec.upto degradedFaultlessSpec)

/-- 'overseerlaw43.DegradedKeeps', WHERE WHAT IT READS IS OF BULK AT MOST 1048576: true; the input reads as it did. -/
def degradedKeepsUptoRow : OpenClaim := { program := "ytccapdeoaoiieaagreatdoor", sum := "bd7a410f020a18cd925cdad3fcd4ea22e248594b00a87b83eb2130a75e41b370", func := "overseer/overseerlaw43.DegradedKeeps", spec := "degradedKeeps", inPlace := ["internal/abi.NoEscape"], unfollowed := true, recurses := true, named := ["internal/strconv.uint64pow10", "math/bits.deBruijn32tab", "math/bits.deBruijn64tab"], plainKeys := false, apart := false, laid := [("math/bits.deBruijn32tab", laid_math_bits_deBruijn32tab), ("math/bits.deBruijn64tab", laid_math_bits_deBruijn64tab), ("internal/strconv.uint64pow10", laid_internal_strconv_uint64pow10)], narrowed := true }
def DegradedKeepsUptoSaid : Prop := degradedKeepsUptoRow.holds Tryz.pinned (OpenSpec.upto degradedKeepsSpec)

/-- 'overseerlaw43.DegradedChecks', WHERE WHAT IT READS IS OF BULK AT MOST 1048576: true; the input reads as it did. -/
def degradedChecksUptoRow : OpenClaim := { program := "ytccapdeoaoiieaagreatdoor", sum := "bd7a410f020a18cd925cdad3fcd4ea22e248594b00a87b83eb2130a75e41b370", func := "overseer/overseerlaw43.DegradedChecks", spec := "degradedChecks", inPlace := ["internal/abi.NoEscape"], unfollowed := true, recurses := true, named := ["internal/strconv.uint64pow10", "math/bits.deBruijn32tab", "math/bits.deBruijn64tab"], plainKeys := false, apart := false, laid := [("math/bits.deBruijn32tab", laid_math_bits_deBruijn32tab), ("math/bits.deBruijn64tab", laid_math_bits_deBruijn64tab), ("internal/strconv.uint64pow10", laid_internal_strconv_uint64pow10)], narrowed := true }
def DegradedChecksUptoSaid : Prop := degradedChecksUptoRow.holds Tryz.pinned (OpenSpec.upto degradedChecksSpec)

end Rows
end Go.Proofs.YtccapdeoaoiieaaGreatDoor
