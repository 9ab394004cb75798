/-
  RequirementPrecedes: for every input the law returns true, and each argument reads behind the call as it read before. No conditions.
-/
import Derived.Test.YtnmmhhnhjdglhaaP5
import Derived.Test.YtnmmhhnhjdglhaaRows
set_option linter.unusedVariables false
set_option linter.unusedSimpArgs false
set_option linter.unusedSectionVars false
namespace Go.Proofs.Ytnmmhhnhjdglhaa
open Go Go.Abs Go.ChangeShapes Go.WideShapes Go.ChangeAt Go.RowKit
set_option linter.unusedVariables false
set_option maxRecDepth 100000
theorem law : LawOK Try.prog 5 [24, 24] :=
  lawOK2 A_24 (fun _ => rfl) (fun _ => rfl) A_24 (fun _ => rfl) (fun _ => rfl) fun a b wa wb M nb => ok_overseerlaw21_RequirementPrecedes a b true (requirementPrecedes_ok a b) M nb
theorem own : ownKnob Try.prog.godebug = none := by kernel_rfl
theorem lifted (os : Os) (started : os.Started) (H : Type) (enc : TypeId × Value → H) :
    ReturnsInHanded {} Try.checked os 5 .any (Rows.requirementPrecedesSpec.pre6 enc Try.prog Try.f5 Rows.requirementPrecedesRow.domain false) (Rows.requirementPrecedesSpec.post enc Try.prog Try.f5 false true false false) :=
  law_returns (C := Try.checked) own started (by kernel_rfl) Try.func5
    (ChangeSpec.witness6 (enc := enc) (C := Try.checked) false ⟨#[], #[.slice none 0 0, .slice none 0 0], []⟩ 8 (by kernel_rfl) (by kernel_rfl) (by kernel_rfl) (by kernel_rfl))
    rfl rfl Try.underlying4 (by kernel_rfl)
    (by
      intro t ht
      have hp : Try.f5.params.toList = [24, 24] := by rw [Try.params5]
      rw [hp] at ht
      simp only [List.mem_cons, List.not_mem_nil, or_false] at ht
      rcases ht with rfl | rfl
      · exact ⟨by kernel_rfl, of_decide_eq_true (by kernel_rfl)⟩
      · exact ⟨by kernel_rfl, of_decide_eq_true (by kernel_rfl)⟩)
    (by
      intro ds hl
      have hp : Try.f5.params.size = 2 := by rw [Try.params5]; rfl
      rw [hp] at hl
      match ds, hl with
      | [da, db], _ => rfl)
    (by
      have hp : Try.f5.params.toList = [24, 24] := by rw [Try.params5]
      show LawOK Try.prog 5 Try.f5.params.toList
      rw [hp]; exact law)
theorem over : Rows.requirementPrecedesRow.holds Try.pinned (OpenSpec.ofChange Rows.requirementPrecedesSpec) :=
  OpenClaim.holds_of_wide 5 Try.f5 rfl rfl rfl rfl rfl rfl rfl ⟨rfl, rfl, rfl, rfl, rfl⟩ rfl rfl rfl rfl rfl (by kernel_rfl) Try.func5 (by kernel_rfl)
    (of_decide_eq_true (by kernel_rfl)) (by unfold Func.isWrapper; first | (rw [if_pos (by decide +kernel)]; kernel_rfl) | (rw [if_neg (by decide +kernel)]; exact ⟨rfl, rfl⟩))
    (fun os started H enc _ => lifted os started H enc)
theorem requirementPrecedes_holds : Rows.RequirementPrecedesSaid := over
end Go.Proofs.Ytnmmhhnhjdglhaa
