/-
  NARROWER THAN 'FOR EVERY INPUT', by the rows' own cells (each row's printed sentence says how): RelativeLanguages: laid · RelativeChecks: laid · RelativeRefutes: laid · RelativeHolds: laid · RelativeOnce: laid · RelativeSupremal: laid · RelativeAmbient: laid · RelativeWords: laid · RelativeAgain: laid.
  DERIVED. THE GIVEN ROWS OF THIS SEAT. 9 by the template 'for every input the law returns true; each argument reads behind the call as it read before'; 0 by the template 'total and deterministic' (their statements: YtdckcingoapofaaGreatDoorTotals.lean).
  GIVEN WITH THE SEED: the statements are not yours to turn. If you find one false, say at which input.
  Laid BY PROGRAM, IN A SANDBOX (cutbox-rows.mjs): the forced cells as the released guide's own fill.sh prints them over the translation 3022660181757c04… (all of the seat's roots in one cut). By AI agents, Wed Nov 11 2026. No macro, syntax, notation, axiom, sorry.
-/
import Derived.Test.YtdckcingoapofaaGreatDoorChecked
import GoSem.Claim
import GoSem.ClaimJoined
import GoSem.ClaimMapViews
import Derived.JoinedTies
import Derived.KernelRfl
namespace Go.Proofs.YtdckcingoapofaaGreatDoor
/- THE CELL 'sum', in the pinned program and in every row, IS THE sha256 OF THE DUMP (.gsa) THAT YtdckcingoapofaaGreatDoorProg.lean LOADS. Nothing in Lean hashes anything: it is a label: what it is worth is what the hold of that sum in a sandbox is worth. -/
noncomputable def Tryz.pinned : Pinned := { name := "ytdckcingoapofaagreatdoor", sum := "3022660181757c0436d59bc90de15ee4a66944ac5b3f2c705e1d4299dec3ac8d", checked := Tryz.checked }
namespace Rows
def none {H : Type} : Left H := { results := [], args := [] }

/- WHAT THE LISTED PACKAGE-LEVEL VARIABLES READ AS WHEN THE CALL BEGINS. Each datum BY PROGRAM (the guide's laid-datum.mjs) off the statement by which the dump's own 'gosem.cut.vars' lays the variable. In a bare row this is a premise. The card (YtdckcingoapofaaGreatDoorCards.lean) ties it to the program's text. -/
def laid_math_bits_deBruijn32tab {H : Type} : DataW H := .agg [.lit (.int .u8 0), .lit (.int .u8 1), .lit (.int .u8 28), .lit (.int .u8 2), .lit (.int .u8 29), .lit (.int .u8 14), .lit (.int .u8 24), .lit (.int .u8 3), .lit (.int .u8 30), .lit (.int .u8 22), .lit (.int .u8 20), .lit (.int .u8 15), .lit (.int .u8 25), .lit (.int .u8 17), .lit (.int .u8 4), .lit (.int .u8 8), .lit (.int .u8 31), .lit (.int .u8 27), .lit (.int .u8 13), .lit (.int .u8 23), .lit (.int .u8 21), .lit (.int .u8 19), .lit (.int .u8 16), .lit (.int .u8 7), .lit (.int .u8 26), .lit (.int .u8 12), .lit (.int .u8 18), .lit (.int .u8 6), .lit (.int .u8 11), .lit (.int .u8 5), .lit (.int .u8 10), .lit (.int .u8 9)]
def laid_math_bits_deBruijn64tab {H : Type} : DataW H := .agg [.lit (.int .u8 0), .lit (.int .u8 1), .lit (.int .u8 56), .lit (.int .u8 2), .lit (.int .u8 57), .lit (.int .u8 49), .lit (.int .u8 28), .lit (.int .u8 3), .lit (.int .u8 61), .lit (.int .u8 58), .lit (.int .u8 42), .lit (.int .u8 50), .lit (.int .u8 38), .lit (.int .u8 29), .lit (.int .u8 17), .lit (.int .u8 4), .lit (.int .u8 62), .lit (.int .u8 47), .lit (.int .u8 59), .lit (.int .u8 36), .lit (.int .u8 45), .lit (.int .u8 43), .lit (.int .u8 51), .lit (.int .u8 22), .lit (.int .u8 53), .lit (.int .u8 39), .lit (.int .u8 33), .lit (.int .u8 30), .lit (.int .u8 24), .lit (.int .u8 18), .lit (.int .u8 12), .lit (.int .u8 5), .lit (.int .u8 63), .lit (.int .u8 55), .lit (.int .u8 48), .lit (.int .u8 27), .lit (.int .u8 60), .lit (.int .u8 41), .lit (.int .u8 37), .lit (.int .u8 16), .lit (.int .u8 46), .lit (.int .u8 35), .lit (.int .u8 44), .lit (.int .u8 21), .lit (.int .u8 52), .lit (.int .u8 32), .lit (.int .u8 23), .lit (.int .u8 11), .lit (.int .u8 54), .lit (.int .u8 26), .lit (.int .u8 40), .lit (.int .u8 15), .lit (.int .u8 34), .lit (.int .u8 20), .lit (.int .u8 31), .lit (.int .u8 10), .lit (.int .u8 25), .lit (.int .u8 14), .lit (.int .u8 19), .lit (.int .u8 9), .lit (.int .u8 13), .lit (.int .u8 8), .lit (.int .u8 7), .lit (.int .u8 6)]
def laid_internal_strconv_uint64pow10 {H : Type} : DataW H := .agg [.lit (.int .u64 1), .lit (.int .u64 10), .lit (.int .u64 100), .lit (.int .u64 1000), .lit (.int .u64 10000), .lit (.int .u64 100000), .lit (.int .u64 1000000), .lit (.int .u64 10000000), .lit (.int .u64 100000000), .lit (.int .u64 1000000000), .lit (.int .u64 10000000000), .lit (.int .u64 100000000000), .lit (.int .u64 1000000000000), .lit (.int .u64 10000000000000), .lit (.int .u64 100000000000000), .lit (.int .u64 1000000000000000), .lit (.int .u64 10000000000000000), .lit (.int .u64 100000000000000000), .lit (.int .u64 1000000000000000000), .lit (.int .u64 10000000000000000000)]

/-- 'overseerlaw39.RelativeLanguages': WHATEVER THE INPUT: true; the input reads as it did. -/
def relativeLanguagesSpec : ChangeSpec := { name := "relativeLanguages", fn := fun _ => fun
  | [d] => { results := [.lit (.bool true)], args := [d] }
  | _ => none }
def relativeLanguagesRow : OpenClaim := { program := "ytdckcingoapofaagreatdoor", sum := "3022660181757c0436d59bc90de15ee4a66944ac5b3f2c705e1d4299dec3ac8d", func := "overseer/overseerlaw39.RelativeLanguages", spec := "relativeLanguages", inPlace := ["internal/abi.NoEscape"], unfollowed := true, recurses := true, named := ["internal/strconv.uint64pow10", "math/bits.deBruijn32tab", "math/bits.deBruijn64tab"], plainKeys := false, apart := false, laid := [("math/bits.deBruijn32tab", laid_math_bits_deBruijn32tab), ("math/bits.deBruijn64tab", laid_math_bits_deBruijn64tab), ("internal/strconv.uint64pow10", laid_internal_strconv_uint64pow10)] }
def RelativeLanguagesSaid : Prop := relativeLanguagesRow.holds Tryz.pinned (OpenSpec.ofChange relativeLanguagesSpec)

/-- ITS FALSE NEIGHBOUR: 'it returns false'. Refute it at one input. -/
def relativeLanguagesWrong : ChangeSpec := { name := "relativeLanguages", fn := fun _ => fun
  | [d] => { results := [.lit (.bool false)], args := [d] }
  | _ => none }
def RelativeLanguagesWrongFalsely : Prop := relativeLanguagesRow.holds Tryz.pinned (OpenSpec.ofChange relativeLanguagesWrong)

/-- 'overseerlaw39.RelativeChecks': WHATEVER THE INPUT: true; the input reads as it did. -/
def relativeChecksSpec : ChangeSpec := { name := "relativeChecks", fn := fun _ => fun
  | [d] => { results := [.lit (.bool true)], args := [d] }
  | _ => none }
def relativeChecksRow : OpenClaim := { program := "ytdckcingoapofaagreatdoor", sum := "3022660181757c0436d59bc90de15ee4a66944ac5b3f2c705e1d4299dec3ac8d", func := "overseer/overseerlaw39.RelativeChecks", spec := "relativeChecks", inPlace := ["internal/abi.NoEscape"], unfollowed := true, recurses := true, named := ["internal/strconv.uint64pow10", "math/bits.deBruijn32tab", "math/bits.deBruijn64tab"], plainKeys := false, apart := false, laid := [("math/bits.deBruijn32tab", laid_math_bits_deBruijn32tab), ("math/bits.deBruijn64tab", laid_math_bits_deBruijn64tab), ("internal/strconv.uint64pow10", laid_internal_strconv_uint64pow10)] }
def RelativeChecksSaid : Prop := relativeChecksRow.holds Tryz.pinned (OpenSpec.ofChange relativeChecksSpec)

/-- ITS FALSE NEIGHBOUR: 'it returns false'. Refute it at one input. -/
def relativeChecksWrong : ChangeSpec := { name := "relativeChecks", fn := fun _ => fun
  | [d] => { results := [.lit (.bool false)], args := [d] }
  | _ => none }
def RelativeChecksWrongFalsely : Prop := relativeChecksRow.holds Tryz.pinned (OpenSpec.ofChange relativeChecksWrong)

/-- 'overseerlaw39.RelativeRefutes': WHATEVER THE INPUT: true; the input reads as it did. -/
def relativeRefutesSpec : ChangeSpec := { name := "relativeRefutes", fn := fun _ => fun
  | [d1, d2] => { results := [.lit (.bool true)], args := [d1, d2] }
  | _ => none }
def relativeRefutesRow : OpenClaim := { program := "ytdckcingoapofaagreatdoor", sum := "3022660181757c0436d59bc90de15ee4a66944ac5b3f2c705e1d4299dec3ac8d", func := "overseer/overseerlaw39.RelativeRefutes", spec := "relativeRefutes", inPlace := ["internal/abi.NoEscape"], unfollowed := true, recurses := true, named := ["internal/strconv.uint64pow10", "math/bits.deBruijn32tab", "math/bits.deBruijn64tab"], plainKeys := false, apart := false, laid := [("math/bits.deBruijn32tab", laid_math_bits_deBruijn32tab), ("math/bits.deBruijn64tab", laid_math_bits_deBruijn64tab), ("internal/strconv.uint64pow10", laid_internal_strconv_uint64pow10)] }
def RelativeRefutesSaid : Prop := relativeRefutesRow.holds Tryz.pinned (OpenSpec.ofChange relativeRefutesSpec)

/-- ITS FALSE NEIGHBOUR: 'it returns false'. Refute it at one input. -/
def relativeRefutesWrong : ChangeSpec := { name := "relativeRefutes", fn := fun _ => fun
  | [d1, d2] => { results := [.lit (.bool false)], args := [d1, d2] }
  | _ => none }
def RelativeRefutesWrongFalsely : Prop := relativeRefutesRow.holds Tryz.pinned (OpenSpec.ofChange relativeRefutesWrong)

/-- 'overseerlaw39.RelativeHolds': WHATEVER THE INPUT: true; the input reads as it did. -/
def relativeHoldsSpec : ChangeSpec := { name := "relativeHolds", fn := fun _ => fun
  | [d] => { results := [.lit (.bool true)], args := [d] }
  | _ => none }
def relativeHoldsRow : OpenClaim := { program := "ytdckcingoapofaagreatdoor", sum := "3022660181757c0436d59bc90de15ee4a66944ac5b3f2c705e1d4299dec3ac8d", func := "overseer/overseerlaw39.RelativeHolds", spec := "relativeHolds", inPlace := ["internal/abi.NoEscape"], unfollowed := true, recurses := true, named := ["internal/strconv.uint64pow10", "math/bits.deBruijn32tab", "math/bits.deBruijn64tab"], plainKeys := false, apart := false, laid := [("math/bits.deBruijn32tab", laid_math_bits_deBruijn32tab), ("math/bits.deBruijn64tab", laid_math_bits_deBruijn64tab), ("internal/strconv.uint64pow10", laid_internal_strconv_uint64pow10)] }
def RelativeHoldsSaid : Prop := relativeHoldsRow.holds Tryz.pinned (OpenSpec.ofChange relativeHoldsSpec)

/-- ITS FALSE NEIGHBOUR: 'it returns false'. Refute it at one input. -/
def relativeHoldsWrong : ChangeSpec := { name := "relativeHolds", fn := fun _ => fun
  | [d] => { results := [.lit (.bool false)], args := [d] }
  | _ => none }
def RelativeHoldsWrongFalsely : Prop := relativeHoldsRow.holds Tryz.pinned (OpenSpec.ofChange relativeHoldsWrong)

/-- 'overseerlaw39.RelativeOnce': WHATEVER THE INPUT: true; the input reads as it did. -/
def relativeOnceSpec : ChangeSpec := { name := "relativeOnce", fn := fun _ => fun
  | [d] => { results := [.lit (.bool true)], args := [d] }
  | _ => none }
def relativeOnceRow : OpenClaim := { program := "ytdckcingoapofaagreatdoor", sum := "3022660181757c0436d59bc90de15ee4a66944ac5b3f2c705e1d4299dec3ac8d", func := "overseer/overseerlaw39.RelativeOnce", spec := "relativeOnce", inPlace := ["internal/abi.NoEscape"], unfollowed := true, recurses := true, named := ["internal/strconv.uint64pow10", "math/bits.deBruijn32tab", "math/bits.deBruijn64tab"], plainKeys := false, apart := false, laid := [("math/bits.deBruijn32tab", laid_math_bits_deBruijn32tab), ("math/bits.deBruijn64tab", laid_math_bits_deBruijn64tab), ("internal/strconv.uint64pow10", laid_internal_strconv_uint64pow10)] }
def RelativeOnceSaid : Prop := relativeOnceRow.holds Tryz.pinned (OpenSpec.ofChange relativeOnceSpec)

/-- ITS FALSE NEIGHBOUR: 'it returns false'. Refute it at one input. -/
def relativeOnceWrong : ChangeSpec := { name := "relativeOnce", fn := fun _ => fun
  | [d] => { results := [.lit (.bool false)], args := [d] }
  | _ => none }
def RelativeOnceWrongFalsely : Prop := relativeOnceRow.holds Tryz.pinned (OpenSpec.ofChange relativeOnceWrong)

/-- 'overseerlaw39.RelativeSupremal': WHATEVER THE INPUT: true; the input reads as it did. -/
def relativeSupremalSpec : ChangeSpec := { name := "relativeSupremal", fn := fun _ => fun
  | [d] => { results := [.lit (.bool true)], args := [d] }
  | _ => none }
def relativeSupremalRow : OpenClaim := { program := "ytdckcingoapofaagreatdoor", sum := "3022660181757c0436d59bc90de15ee4a66944ac5b3f2c705e1d4299dec3ac8d", func := "overseer/overseerlaw39.RelativeSupremal", spec := "relativeSupremal", inPlace := ["internal/abi.NoEscape"], unfollowed := true, recurses := true, named := ["internal/strconv.uint64pow10", "math/bits.deBruijn32tab", "math/bits.deBruijn64tab"], plainKeys := false, apart := false, laid := [("math/bits.deBruijn32tab", laid_math_bits_deBruijn32tab), ("math/bits.deBruijn64tab", laid_math_bits_deBruijn64tab), ("internal/strconv.uint64pow10", laid_internal_strconv_uint64pow10)] }
def RelativeSupremalSaid : Prop := relativeSupremalRow.holds Tryz.pinned (OpenSpec.ofChange relativeSupremalSpec)

/-- ITS FALSE NEIGHBOUR: 'it returns false'. Refute it at one input. -/
def relativeSupremalWrong : ChangeSpec := { name := "relativeSupremal", fn := fun _ => fun
  | [d] => { results := [.lit (.bool false)], args := [d] }
  | _ => none }
def RelativeSupremalWrongFalsely : Prop := relativeSupremalRow.holds Tryz.pinned (OpenSpec.ofChange relativeSupremalWrong)

/-- 'overseerlaw39.RelativeAmbient': WHATEVER THE INPUT: true; the input reads as it did. -/
def relativeAmbientSpec : ChangeSpec := { name := "relativeAmbient", fn := fun _ => fun
  | [d] => { results := [.lit (.bool true)], args := [d] }
  | _ => none }
def relativeAmbientRow : OpenClaim := { program := "ytdckcingoapofaagreatdoor", sum := "3022660181757c0436d59bc90de15ee4a66944ac5b3f2c705e1d4299dec3ac8d", func := "overseer/overseerlaw39.RelativeAmbient", spec := "relativeAmbient", inPlace := ["internal/abi.NoEscape"], unfollowed := true, recurses := true, named := ["internal/strconv.uint64pow10", "math/bits.deBruijn32tab", "math/bits.deBruijn64tab"], plainKeys := false, apart := false, laid := [("math/bits.deBruijn32tab", laid_math_bits_deBruijn32tab), ("math/bits.deBruijn64tab", laid_math_bits_deBruijn64tab), ("internal/strconv.uint64pow10", laid_internal_strconv_uint64pow10)] }
def RelativeAmbientSaid : Prop := relativeAmbientRow.holds Tryz.pinned (OpenSpec.ofChange relativeAmbientSpec)

/-- ITS FALSE NEIGHBOUR: 'it returns false'. Refute it at one input. -/
def relativeAmbientWrong : ChangeSpec := { name := "relativeAmbient", fn := fun _ => fun
  | [d] => { results := [.lit (.bool false)], args := [d] }
  | _ => none }
def RelativeAmbientWrongFalsely : Prop := relativeAmbientRow.holds Tryz.pinned (OpenSpec.ofChange relativeAmbientWrong)

/-- 'overseerlaw39.RelativeWords': WHATEVER THE INPUT: true; the input reads as it did. -/
def relativeWordsSpec : ChangeSpec := { name := "relativeWords", fn := fun _ => fun
  | [d] => { results := [.lit (.bool true)], args := [d] }
  | _ => none }
def relativeWordsRow : OpenClaim := { program := "ytdckcingoapofaagreatdoor", sum := "3022660181757c0436d59bc90de15ee4a66944ac5b3f2c705e1d4299dec3ac8d", func := "overseer/overseerlaw39.RelativeWords", spec := "relativeWords", inPlace := ["internal/abi.NoEscape"], unfollowed := true, recurses := true, named := ["internal/strconv.uint64pow10", "math/bits.deBruijn32tab", "math/bits.deBruijn64tab"], plainKeys := false, apart := false, laid := [("math/bits.deBruijn32tab", laid_math_bits_deBruijn32tab), ("math/bits.deBruijn64tab", laid_math_bits_deBruijn64tab), ("internal/strconv.uint64pow10", laid_internal_strconv_uint64pow10)] }
def RelativeWordsSaid : Prop := relativeWordsRow.holds Tryz.pinned (OpenSpec.ofChange relativeWordsSpec)

/-- ITS FALSE NEIGHBOUR: 'it returns false'. Refute it at one input. -/
def relativeWordsWrong : ChangeSpec := { name := "relativeWords", fn := fun _ => fun
  | [d] => { results := [.lit (.bool false)], args := [d] }
  | _ => none }
def RelativeWordsWrongFalsely : Prop := relativeWordsRow.holds Tryz.pinned (OpenSpec.ofChange relativeWordsWrong)

/-- 'overseerlaw39.RelativeAgain': WHATEVER THE INPUT: true; the input reads as it did. -/
def relativeAgainSpec : ChangeSpec := { name := "relativeAgain", fn := fun _ => fun
  | [d] => { results := [.lit (.bool true)], args := [d] }
  | _ => none }
def relativeAgainRow : OpenClaim := { program := "ytdckcingoapofaagreatdoor", sum := "3022660181757c0436d59bc90de15ee4a66944ac5b3f2c705e1d4299dec3ac8d", func := "overseer/overseerlaw39.RelativeAgain", spec := "relativeAgain", inPlace := ["internal/abi.NoEscape"], unfollowed := true, recurses := true, named := ["internal/strconv.uint64pow10", "math/bits.deBruijn32tab", "math/bits.deBruijn64tab"], plainKeys := false, apart := false, laid := [("math/bits.deBruijn32tab", laid_math_bits_deBruijn32tab), ("math/bits.deBruijn64tab", laid_math_bits_deBruijn64tab), ("internal/strconv.uint64pow10", laid_internal_strconv_uint64pow10)] }
def RelativeAgainSaid : Prop := relativeAgainRow.holds Tryz.pinned (OpenSpec.ofChange relativeAgainSpec)

/-- ITS FALSE NEIGHBOUR: 'it returns false'. Refute it at one input. -/
def relativeAgainWrong : ChangeSpec := { name := "relativeAgain", fn := fun _ => fun
  | [d] => { results := [.lit (.bool false)], args := [d] }
  | _ => none }
def RelativeAgainWrongFalsely : Prop := relativeAgainRow.holds Tryz.pinned (OpenSpec.ofChange relativeAgainWrong)

/- THE SECOND FORM. 'bulk': how many values and letters a reading holds, each counted each time it is reached (what is shared counts as often as it is met; a slice's spare places count too). A statement '..UptoSaid' is the law's where the arguments, and the package variables that the reading takes, are together of bulk at most 1048576: NARROWER than '..Said'. Prove '..Said' where nothing that the law and all that it calls make is longer than what came in: it says more and counts as full. Else prove '..UptoSaid'. A law counts once. -/
mutual
def uptoBulk {H : Type} : DataW H → Nat
  | .lit (.string bytes) => bytes.length + 1
  | .lit _ => 1
  | .nil => 1
  | .ptr d => uptoBulk d + 1
  | .slice elems spare => uptoBulkAll elems + uptoBulkAll spare + 1
  | .agg parts => uptoBulkAll parts + 1
  | .iface _ d => uptoBulk d + 1
  | .map entries => uptoBulkEntries entries + 1
  | .held _ => 1
def uptoBulkAll {H : Type} : List (DataW H) → Nat
  | [] => 0
  | d :: r => uptoBulk d + uptoBulkAll r
def uptoBulkEntries {H : Type} : List (Lit × DataW H) → Nat
  | [] => 0
  | x :: r => uptoBulkEntry x + uptoBulkEntries r
def uptoBulkEntry {H : Type} : Lit × DataW H → Nat
  | (.string bytes, d) => bytes.length + uptoBulk d + 1
  | (_, d) => uptoBulk d + 1
 end
def uptoSmall : (H : Type) → List (DataW H) → Bool := fun _ ds => decide (uptoBulkAll ds ≤ 1048576)
def OpenSpec.upto (s : _root_.Go.ChangeSpec) : _root_.Go.OpenSpec := { _root_.Go.OpenSpec.ofChange s with cond := some uptoSmall }

/-- 'overseerlaw39.RelativeLanguages', WHERE WHAT IT READS IS OF BULK AT MOST 1048576: true; the input reads as it did. -/
def relativeLanguagesUptoRow : OpenClaim := { program := "ytdckcingoapofaagreatdoor", sum := "3022660181757c0436d59bc90de15ee4a66944ac5b3f2c705e1d4299dec3ac8d", func := "overseer/overseerlaw39.RelativeLanguages", spec := "relativeLanguages", inPlace := ["internal/abi.NoEscape"], unfollowed := true, recurses := true, named := ["internal/strconv.uint64pow10", "math/bits.deBruijn32tab", "math/bits.deBruijn64tab"], plainKeys := false, apart := false, laid := [("math/bits.deBruijn32tab", laid_math_bits_deBruijn32tab), ("math/bits.deBruijn64tab", laid_math_bits_deBruijn64tab), ("internal/strconv.uint64pow10", laid_internal_strconv_uint64pow10)], narrowed := true }
def RelativeLanguagesUptoSaid : Prop := relativeLanguagesUptoRow.holds Tryz.pinned (OpenSpec.upto relativeLanguagesSpec)

/-- 'overseerlaw39.RelativeChecks', WHERE WHAT IT READS IS OF BULK AT MOST 1048576: true; the input reads as it did. -/
def relativeChecksUptoRow : OpenClaim := { program := "ytdckcingoapofaagreatdoor", sum := "3022660181757c0436d59bc90de15ee4a66944ac5b3f2c705e1d4299dec3ac8d", func := "overseer/overseerlaw39.RelativeChecks", spec := "relativeChecks", inPlace := ["internal/abi.NoEscape"], unfollowed := true, recurses := true, named := ["internal/strconv.uint64pow10", "math/bits.deBruijn32tab", "math/bits.deBruijn64tab"], plainKeys := false, apart := false, laid := [("math/bits.deBruijn32tab", laid_math_bits_deBruijn32tab), ("math/bits.deBruijn64tab", laid_math_bits_deBruijn64tab), ("internal/strconv.uint64pow10", laid_internal_strconv_uint64pow10)], narrowed := true }
def RelativeChecksUptoSaid : Prop := relativeChecksUptoRow.holds Tryz.pinned (OpenSpec.upto relativeChecksSpec)

/-- 'overseerlaw39.RelativeRefutes', WHERE WHAT IT READS IS OF BULK AT MOST 1048576: true; the input reads as it did. -/
def relativeRefutesUptoRow : OpenClaim := { program := "ytdckcingoapofaagreatdoor", sum := "3022660181757c0436d59bc90de15ee4a66944ac5b3f2c705e1d4299dec3ac8d", func := "overseer/overseerlaw39.RelativeRefutes", spec := "relativeRefutes", inPlace := ["internal/abi.NoEscape"], unfollowed := true, recurses := true, named := ["internal/strconv.uint64pow10", "math/bits.deBruijn32tab", "math/bits.deBruijn64tab"], plainKeys := false, apart := false, laid := [("math/bits.deBruijn32tab", laid_math_bits_deBruijn32tab), ("math/bits.deBruijn64tab", laid_math_bits_deBruijn64tab), ("internal/strconv.uint64pow10", laid_internal_strconv_uint64pow10)], narrowed := true }
def RelativeRefutesUptoSaid : Prop := relativeRefutesUptoRow.holds Tryz.pinned (OpenSpec.upto relativeRefutesSpec)

/-- 'overseerlaw39.RelativeHolds', WHERE WHAT IT READS IS OF BULK AT MOST 1048576: true; the input reads as it did. -/
def relativeHoldsUptoRow : OpenClaim := { program := "ytdckcingoapofaagreatdoor", sum := "3022660181757c0436d59bc90de15ee4a66944ac5b3f2c705e1d4299dec3ac8d", func := "overseer/overseerlaw39.RelativeHolds", spec := "relativeHolds", inPlace := ["internal/abi.NoEscape"], unfollowed := true, recurses := true, named := ["internal/strconv.uint64pow10", "math/bits.deBruijn32tab", "math/bits.deBruijn64tab"], plainKeys := false, apart := false, laid := [("math/bits.deBruijn32tab", laid_math_bits_deBruijn32tab), ("math/bits.deBruijn64tab", laid_math_bits_deBruijn64tab), ("internal/strconv.uint64pow10", laid_internal_strconv_uint64pow10)], narrowed := true }
def RelativeHoldsUptoSaid : Prop := relativeHoldsUptoRow.holds Tryz.pinned (OpenSpec.upto relativeHoldsSpec)

/-- 'overseerlaw39.RelativeOnce', WHERE WHAT IT READS IS OF BULK AT MOST 1048576: true; the input reads as it did. -/
def relativeOnceUptoRow : OpenClaim := { program := "ytdckcingoapofaagreatdoor", sum := "3022660181757c0436d59bc90de15ee4a66944ac5b3f2c705e1d4299dec3ac8d", func := "overseer/overseerlaw39.RelativeOnce", spec := "relativeOnce", inPlace := ["internal/abi.NoEscape"], unfollowed := true, recurses := true, named := ["internal/strconv.uint64pow10", "math/bits.deBruijn32tab", "math/bits.deBruijn64tab"], plainKeys := false, apart := false, laid := [("math/bits.deBruijn32tab", laid_math_bits_deBruijn32tab), ("math/bits.deBruijn64tab", laid_math_bits_deBruijn64tab), ("internal/strconv.uint64pow10", laid_internal_strconv_uint64pow10)], narrowed := true }
def RelativeOnceUptoSaid : Prop := relativeOnceUptoRow.holds Tryz.pinned (OpenSpec.upto relativeOnceSpec)

/-- 'overseerlaw39.RelativeSupremal', WHERE WHAT IT READS IS OF BULK AT MOST 1048576: true; the input reads as it did. -/
def relativeSupremalUptoRow : OpenClaim := { program := "ytdckcingoapofaagreatdoor", sum := "3022660181757c0436d59bc90de15ee4a66944ac5b3f2c705e1d4299dec3ac8d", func := "overseer/overseerlaw39.RelativeSupremal", spec := "relativeSupremal", inPlace := ["internal/abi.NoEscape"], unfollowed := true, recurses := true, named := ["internal/strconv.uint64pow10", "math/bits.deBruijn32tab", "math/bits.deBruijn64tab"], plainKeys := false, apart := false, laid := [("math/bits.deBruijn32tab", laid_math_bits_deBruijn32tab), ("math/bits.deBruijn64tab", laid_math_bits_deBruijn64tab), ("internal/strconv.uint64pow10", laid_internal_strconv_uint64pow10)], narrowed := true }
def RelativeSupremalUptoSaid : Prop := relativeSupremalUptoRow.holds Tryz.pinned (OpenSpec.upto relativeSupremalSpec)

/-- 'overseerlaw39.RelativeAmbient', WHERE WHAT IT READS IS OF BULK AT MOST 1048576: true; the input reads as it did. -/
def relativeAmbientUptoRow : OpenClaim := { program := "ytdckcingoapofaagreatdoor", sum := "3022660181757c0436d59bc90de15ee4a66944ac5b3f2c705e1d4299dec3ac8d", func := "overseer/overseerlaw39.RelativeAmbient", spec := "relativeAmbient", inPlace := ["internal/abi.NoEscape"], unfollowed := true, recurses := true, named := ["internal/strconv.uint64pow10", "math/bits.deBruijn32tab", "math/bits.deBruijn64tab"], plainKeys := false, apart := false, laid := [("math/bits.deBruijn32tab", laid_math_bits_deBruijn32tab), ("math/bits.deBruijn64tab", laid_math_bits_deBruijn64tab), ("internal/strconv.uint64pow10", laid_internal_strconv_uint64pow10)], narrowed := true }
def RelativeAmbientUptoSaid : Prop := relativeAmbientUptoRow.holds Tryz.pinned (OpenSpec.upto relativeAmbientSpec)

/-- 'overseerlaw39.RelativeWords', WHERE WHAT IT READS IS OF BULK AT MOST 1048576: true; the input reads as it did. -/
def relativeWordsUptoRow : OpenClaim := { program := "ytdckcingoapofaagreatdoor", sum := "3022660181757c0436d59bc90de15ee4a66944ac5b3f2c705e1d4299dec3ac8d", func := "overseer/overseerlaw39.RelativeWords", spec := "relativeWords", inPlace := ["internal/abi.NoEscape"], unfollowed := true, recurses := true, named := ["internal/strconv.uint64pow10", "math/bits.deBruijn32tab", "math/bits.deBruijn64tab"], plainKeys := false, apart := false, laid := [("math/bits.deBruijn32tab", laid_math_bits_deBruijn32tab), ("math/bits.deBruijn64tab", laid_math_bits_deBruijn64tab), ("internal/strconv.uint64pow10", laid_internal_strconv_uint64pow10)], narrowed := true }
def RelativeWordsUptoSaid : Prop := relativeWordsUptoRow.holds Tryz.pinned (OpenSpec.upto relativeWordsSpec)

/-- 'overseerlaw39.RelativeAgain', WHERE WHAT IT READS IS OF BULK AT MOST 1048576: true; the input reads as it did. -/
def relativeAgainUptoRow : OpenClaim := { program := "ytdckcingoapofaagreatdoor", sum := "3022660181757c0436d59bc90de15ee4a66944ac5b3f2c705e1d4299dec3ac8d", func := "overseer/overseerlaw39.RelativeAgain", spec := "relativeAgain", inPlace := ["internal/abi.NoEscape"], unfollowed := true, recurses := true, named := ["internal/strconv.uint64pow10", "math/bits.deBruijn32tab", "math/bits.deBruijn64tab"], plainKeys := false, apart := false, laid := [("math/bits.deBruijn32tab", laid_math_bits_deBruijn32tab), ("math/bits.deBruijn64tab", laid_math_bits_deBruijn64tab), ("internal/strconv.uint64pow10", laid_internal_strconv_uint64pow10)], narrowed := true }
def RelativeAgainUptoSaid : Prop := relativeAgainUptoRow.holds Tryz.pinned (OpenSpec.upto relativeAgainSpec)

end Rows
end Go.Proofs.YtdckcingoapofaaGreatDoor
