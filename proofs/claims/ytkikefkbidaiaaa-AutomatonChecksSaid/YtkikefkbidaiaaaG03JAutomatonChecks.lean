/-
  AutomatonChecks: for every input the law returns true, and each argument reads behind the call as it read before. No conditions.
-/
import Derived.Test.YtkikefkbidaiaaaP6
import Derived.Test.YtkikefkbidaiaaaRows
set_option linter.unusedVariables false
set_option linter.unusedSimpArgs false
set_option linter.unusedSectionVars false
namespace Go.Proofs.Ytkikefkbidaiaaa
open Go Go.Abs Go.ChangeShapes Go.WideShapes Go.ChangeAt Go.RowKit
set_option linter.unusedVariables false
set_option maxRecDepth 100000

theorem law : LawOK Try.prog 12 [31] :=
  lawOK1 A_31 (fun _ => rfl) (fun _ => rfl) fun a wa M nb => ok_overseerlaw03_AutomatonChecks a true (automatonChecks_ok a) M nb

theorem own : ownKnob Try.prog.godebug = none := by kernel_rfl

theorem lifted (os : Os) (started : os.Started) (H : Type) (enc : TypeId × Value → H) :
    ReturnsInHanded {} Try.checked os 12 .any (Rows.automatonChecksSpec.pre6 enc Try.prog Try.f12 Rows.automatonChecksRow.domain false) (Rows.automatonChecksSpec.post enc Try.prog Try.f12 false true false false) :=
  law_returns (C := Try.checked) own started (by kernel_rfl) Try.func12
    (ChangeSpec.witness6 (enc := enc) (C := Try.checked) false ⟨#[], #[.agg #[.slice none 0 0, .int .i64 0, .slice none 0 0, .slice none 0 0]], []⟩ 8 (by kernel_rfl) (by kernel_rfl) (by kernel_rfl) (by kernel_rfl))
    rfl rfl Try.underlying4 (by kernel_rfl)
    (by
      intro t ht
      have hp : Try.f12.params.toList = [31] := by rw [Try.params12]
      rw [hp] at ht
      simp only [List.mem_cons, List.not_mem_nil, or_false] at ht
      rcases ht with rfl
      · exact ⟨by kernel_rfl, of_decide_eq_true (by kernel_rfl)⟩)
    (by
      intro ds hl
      have hp : Try.f12.params.size = 1 := by rw [Try.params12]; rfl
      rw [hp] at hl
      match ds, hl with
      | [da], _ => rfl)
    (by
      have hp : Try.f12.params.toList = [31] := by rw [Try.params12]
      show LawOK Try.prog 12 Try.f12.params.toList
      rw [hp]; exact law)

theorem over : Rows.automatonChecksRow.holds Try.pinned (OpenSpec.ofChange Rows.automatonChecksSpec) :=
  OpenClaim.holds_of_wide 12 Try.f12 rfl rfl rfl rfl rfl rfl rfl ⟨rfl, rfl, rfl, rfl, rfl⟩ rfl rfl rfl rfl rfl (by kernel_rfl) Try.func12 (by kernel_rfl)
    (of_decide_eq_true (by kernel_rfl)) (by unfold Func.isWrapper; first | (rw [if_pos (by decide +kernel)]; kernel_rfl) | (rw [if_neg (by decide +kernel)]; exact ⟨rfl, rfl⟩))
    (fun os started H enc _ => lifted os started H enc)

theorem automatonChecks_holds : Rows.AutomatonChecksSaid := over
end Go.Proofs.Ytkikefkbidaiaaa
