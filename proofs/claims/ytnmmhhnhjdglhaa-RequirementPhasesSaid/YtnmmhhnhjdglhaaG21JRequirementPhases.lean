/-
  RequirementPhases: for every input the law returns true, and each argument reads behind the call as it read before. No conditions.
-/
import Derived.Test.YtnmmhhnhjdglhaaP5
import Derived.Test.YtnmmhhnhjdglhaaRows
set_option linter.unusedVariables false
set_option linter.unusedSimpArgs false
set_option linter.unusedSectionVars false
namespace Go.Proofs.Ytnmmhhnhjdglhaa
open Go Go.Abs Go.ChangeShapes Go.WideShapes Go.ChangeAt Go.RowKit
set_option linter.unusedVariables false
set_option maxRecDepth 100000
theorem law : LawOK Try.prog 3 [22, 3] :=
  lawOK2 A_22 (fun _ => rfl) (fun _ => rfl) A_3 (fun _ => rfl) (fun _ => rfl) fun a b wa wb M nb => ok_overseerlaw21_RequirementPhases a b true (requirementPhases_ok a b) M nb
theorem own : ownKnob Try.prog.godebug = none := by kernel_rfl
theorem lifted (os : Os) (started : os.Started) (H : Type) (enc : TypeId × Value → H) :
    ReturnsInHanded {} Try.checked os 3 .any (Rows.requirementPhasesSpec.pre6 enc Try.prog Try.f3 Rows.requirementPhasesRow.domain false) (Rows.requirementPhasesSpec.post enc Try.prog Try.f3 false true false false) :=
  law_returns (C := Try.checked) own started (by kernel_rfl) Try.func3
    (ChangeSpec.witness6 (enc := enc) (C := Try.checked) false ⟨#[], #[.slice none 0 0, .int .i64 0], []⟩ 8 (by kernel_rfl) (by kernel_rfl) (by kernel_rfl) (by kernel_rfl))
    rfl rfl Try.underlying4 (by kernel_rfl)
    (by
      intro t ht
      have hp : Try.f3.params.toList = [22, 3] := by rw [Try.params3]
      rw [hp] at ht
      simp only [List.mem_cons, List.not_mem_nil, or_false] at ht
      rcases ht with rfl | rfl
      · exact ⟨by kernel_rfl, of_decide_eq_true (by kernel_rfl)⟩
      · exact ⟨by kernel_rfl, of_decide_eq_true (by kernel_rfl)⟩)
    (by
      intro ds hl
      have hp : Try.f3.params.size = 2 := by rw [Try.params3]; rfl
      rw [hp] at hl
      match ds, hl with
      | [da, db], _ => rfl)
    (by
      have hp : Try.f3.params.toList = [22, 3] := by rw [Try.params3]
      show LawOK Try.prog 3 Try.f3.params.toList
      rw [hp]; exact law)
theorem over : Rows.requirementPhasesRow.holds Try.pinned (OpenSpec.ofChange Rows.requirementPhasesSpec) :=
  OpenClaim.holds_of_wide 3 Try.f3 rfl rfl rfl rfl rfl rfl rfl ⟨rfl, rfl, rfl, rfl, rfl⟩ rfl rfl rfl rfl rfl (by kernel_rfl) Try.func3 (by kernel_rfl)
    (of_decide_eq_true (by kernel_rfl)) (by unfold Func.isWrapper; first | (rw [if_pos (by decide +kernel)]; kernel_rfl) | (rw [if_neg (by decide +kernel)]; exact ⟨rfl, rfl⟩))
    (fun os started H enc _ => lifted os started H enc)
theorem requirementPhases_holds : Rows.RequirementPhasesSaid := over
end Go.Proofs.Ytnmmhhnhjdglhaa
