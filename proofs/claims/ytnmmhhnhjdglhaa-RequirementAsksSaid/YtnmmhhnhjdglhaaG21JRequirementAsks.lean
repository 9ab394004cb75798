/-
  RequirementAsks: for every input the law returns true, and each argument reads behind the call as it read before. No conditions.
-/
import Derived.Test.YtnmmhhnhjdglhaaP7
import Derived.Test.YtnmmhhnhjdglhaaRows
set_option linter.unusedVariables false
set_option linter.unusedSimpArgs false
set_option linter.unusedSectionVars false
namespace Go.Proofs.Ytnmmhhnhjdglhaa
open Go Go.Abs Go.ChangeShapes Go.WideShapes Go.ChangeAt Go.RowKit
set_option linter.unusedVariables false
set_option maxRecDepth 100000
theorem law : LawOK Try.prog 8 [61] :=
  lawOK1 A_61 (fun _ => rfl) (fun _ => rfl) fun a wa M nb => ok_overseerlaw21_RequirementAsks a true (requirementAsks_ok a (asked_wf wa).1 (asked_wf wa).2) M nb
theorem own : ownKnob Try.prog.godebug = none := by kernel_rfl
theorem lifted (os : Os) (started : os.Started) (H : Type) (enc : TypeId × Value → H) :
    ReturnsInHanded {} Try.checked os 8 .any (Rows.requirementAsksSpec.pre6 enc Try.prog Try.f8 Rows.requirementAsksRow.domain false) (Rows.requirementAsksSpec.post enc Try.prog Try.f8 false true false false) :=
  law_returns (C := Try.checked) own started (by kernel_rfl) Try.func8
    (ChangeSpec.witness6 (enc := enc) (C := Try.checked) false ⟨#[], #[.agg #[.int .u8 0, .int .u8 0, .int .u8 0, .int .u8 0, .int .u8 0, .int .u8 0, .int .u8 0, .int .u8 0, .int .u8 0, .int .u8 0, .int .u8 0, .int .u8 0, .int .u8 0, .int .u8 0, .int .u8 0, .int .u8 0, .int .u8 0, .int .u8 0, .int .u8 0, .int .u8 0, .int .u8 0, .int .u8 0, .int .u8 0, .int .u8 0, .int .u8 0, .int .u8 0, .int .u8 0, .int .u8 0, .int .i64 0, .slice none 0 0]], []⟩ 8 (by kernel_rfl) (by kernel_rfl) (by kernel_rfl) (by kernel_rfl))
    rfl rfl Try.underlying4 (by kernel_rfl)
    (by
      intro t ht
      have hp : Try.f8.params.toList = [61] := by rw [Try.params8]
      rw [hp] at ht
      simp only [List.mem_cons, List.not_mem_nil, or_false] at ht
      rcases ht with rfl
      · exact ⟨by kernel_rfl, of_decide_eq_true (by kernel_rfl)⟩)
    (by
      intro ds hl
      have hp : Try.f8.params.size = 1 := by rw [Try.params8]; rfl
      rw [hp] at hl
      match ds, hl with
      | [da], _ => rfl)
    (by
      have hp : Try.f8.params.toList = [61] := by rw [Try.params8]
      show LawOK Try.prog 8 Try.f8.params.toList
      rw [hp]; exact law)
theorem over : Rows.requirementAsksRow.holds Try.pinned (OpenSpec.ofChange Rows.requirementAsksSpec) :=
  OpenClaim.holds_of_wide 8 Try.f8 rfl rfl rfl rfl rfl rfl rfl ⟨rfl, rfl, rfl, rfl, rfl⟩ rfl rfl rfl rfl rfl (by kernel_rfl) Try.func8 (by kernel_rfl)
    (of_decide_eq_true (by kernel_rfl)) (by unfold Func.isWrapper; first | (rw [if_pos (by decide +kernel)]; kernel_rfl) | (rw [if_neg (by decide +kernel)]; exact ⟨rfl, rfl⟩))
    (fun os started H enc _ => lifted os started H enc)
theorem requirementAsks_holds : Rows.RequirementAsksSaid := over
end Go.Proofs.Ytnmmhhnhjdglhaa
