/-
  RequirementWords: for every input the law returns true, and each argument reads behind the call as it read before. No conditions.
-/
import Derived.Test.YtnmmhhnhjdglhaaP5
import Derived.Test.YtnmmhhnhjdglhaaRows
set_option linter.unusedVariables false
set_option linter.unusedSimpArgs false
set_option linter.unusedSectionVars false
namespace Go.Proofs.Ytnmmhhnhjdglhaa
open Go Go.Abs Go.ChangeShapes Go.WideShapes Go.ChangeAt Go.RowKit
set_option linter.unusedVariables false
set_option maxRecDepth 100000
theorem law : LawOK Try.prog 7 [5, 50] :=
  lawOK2 A_5 (fun _ => rfl) (fun _ => rfl) A_50 (fun _ => rfl) (fun _ => rfl) fun a b wa wb M nb => ok_overseerlaw21_RequirementWords a b true (requirementWords_ok a b (wf_u8 wa) (fun x hx => wf_u8 (wb.2 x hx))) M nb
theorem own : ownKnob Try.prog.godebug = none := by kernel_rfl
theorem lifted (os : Os) (started : os.Started) (H : Type) (enc : TypeId × Value → H) :
    ReturnsInHanded {} Try.checked os 7 .any (Rows.requirementWordsSpec.pre6 enc Try.prog Try.f7 Rows.requirementWordsRow.domain false) (Rows.requirementWordsSpec.post enc Try.prog Try.f7 false true false false) :=
  law_returns (C := Try.checked) own started (by kernel_rfl) Try.func7
    (ChangeSpec.witness6 (enc := enc) (C := Try.checked) false ⟨#[], #[.int .u8 0, .slice none 0 0], []⟩ 8 (by kernel_rfl) (by kernel_rfl) (by kernel_rfl) (by kernel_rfl))
    rfl rfl Try.underlying4 (by kernel_rfl)
    (by
      intro t ht
      have hp : Try.f7.params.toList = [5, 50] := by rw [Try.params7]
      rw [hp] at ht
      simp only [List.mem_cons, List.not_mem_nil, or_false] at ht
      rcases ht with rfl | rfl
      · exact ⟨by kernel_rfl, of_decide_eq_true (by kernel_rfl)⟩
      · exact ⟨by kernel_rfl, of_decide_eq_true (by kernel_rfl)⟩)
    (by
      intro ds hl
      have hp : Try.f7.params.size = 2 := by rw [Try.params7]; rfl
      rw [hp] at hl
      match ds, hl with
      | [da, db], _ => rfl)
    (by
      have hp : Try.f7.params.toList = [5, 50] := by rw [Try.params7]
      show LawOK Try.prog 7 Try.f7.params.toList
      rw [hp]; exact law)
theorem over : Rows.requirementWordsRow.holds Try.pinned (OpenSpec.ofChange Rows.requirementWordsSpec) :=
  OpenClaim.holds_of_wide 7 Try.f7 rfl rfl rfl rfl rfl rfl rfl ⟨rfl, rfl, rfl, rfl, rfl⟩ rfl rfl rfl rfl rfl (by kernel_rfl) Try.func7 (by kernel_rfl)
    (of_decide_eq_true (by kernel_rfl)) (by unfold Func.isWrapper; first | (rw [if_pos (by decide +kernel)]; kernel_rfl) | (rw [if_neg (by decide +kernel)]; exact ⟨rfl, rfl⟩))
    (fun os started H enc _ => lifted os started H enc)
theorem requirementWords_holds : Rows.RequirementWordsSaid := over
end Go.Proofs.Ytnmmhhnhjdglhaa
