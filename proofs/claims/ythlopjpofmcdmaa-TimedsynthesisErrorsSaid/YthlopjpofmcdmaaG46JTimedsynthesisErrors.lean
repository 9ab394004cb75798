/-
  TimedsynthesisErrors: for every input the law returns true, and each argument reads behind the call as it read before. No conditions.
-/
import Derived.Test.YthlopjpofmcdmaaP6
import Derived.Test.YthlopjpofmcdmaaRows
set_option linter.unusedVariables false
set_option linter.unusedSimpArgs false
set_option linter.unusedSectionVars false
namespace Go.Proofs.Ythlopjpofmcdmaa
open Go Go.Abs Go.ChangeShapes Go.WideShapes Go.ChangeAt Go.RowKit
set_option maxRecDepth 100000
theorem law : Qbkq Try.prog 7 [37, 32] :=
  Qbk9 A_37 (fun _ => rfl) (fun _ => rfl) A_32 (fun _ => rfl) (fun _ => rfl) fun a b wa wb M nb => Q3w a b true (Qba7 a b) M nb
theorem own : ownKnob Try.prog.godebug = none := by kernel_rfl
theorem lifted (os : Os) (started : os.Started) (H : Type) (enc : TypeId × Value → H) :
    ReturnsInHanded {} Try.checked os 7 .any (Rows.timedsynthesisErrorsSpec.pre6 enc Try.prog Try.f7 Rows.timedsynthesisErrorsRow.domain false) (Rows.timedsynthesisErrorsSpec.post enc Try.prog Try.f7 false true false false) :=
  Qbjt (C := Try.checked) own started (by kernel_rfl) Try.func7
    (ChangeSpec.witness6 (enc := enc) (C := Try.checked) false ⟨#[], #[.agg #[.slice none 0 0, .int .i64 0, .slice none 0 0, .slice none 0 0, .slice none 0 0, .slice none 0 0, .slice none 0 0, .int .i64 0], .slice none 0 0], []⟩ 8 (by kernel_rfl) (by kernel_rfl) (by kernel_rfl) (by kernel_rfl))
    rfl rfl Try.underlying4 (by kernel_rfl)
    (by
      intro t ht
      have hp : Try.f7.params.toList = [37, 32] := by rw [Try.params7]
      rw [hp] at ht
      simp only [List.mem_cons, List.not_mem_nil, or_false] at ht
      rcases ht with rfl | rfl
      · exact ⟨by kernel_rfl, of_decide_eq_true (by kernel_rfl)⟩
      · exact ⟨by kernel_rfl, of_decide_eq_true (by kernel_rfl)⟩)
    (by
      intro ds hl
      have hp : Try.f7.params.size = 2 := by rw [Try.params7]; rfl
      rw [hp] at hl
      match ds, hl with
      | [da, db], _ => rfl)
    (by
      have hp : Try.f7.params.toList = [37, 32] := by rw [Try.params7]
      show Qbkq Try.prog 7 Try.f7.params.toList
      rw [hp]; exact law)
theorem over : Rows.timedsynthesisErrorsRow.holds Try.pinned (OpenSpec.ofChange Rows.timedsynthesisErrorsSpec) :=
  OpenClaim.holds_of_wide 7 Try.f7 rfl rfl rfl rfl rfl rfl rfl ⟨rfl, rfl, rfl, rfl, rfl⟩ rfl rfl rfl rfl rfl (by kernel_rfl) Try.func7 (by kernel_rfl)
    (of_decide_eq_true (by kernel_rfl)) (by unfold Func.isWrapper; first | (rw [if_pos (by decide +kernel)]; kernel_rfl) | (rw [if_neg (by decide +kernel)]; exact ⟨rfl, rfl⟩))
    (fun os started H enc _ => lifted os started H enc)
theorem timedsynthesisErrors_holds : Rows.TimedsynthesisErrorsSaid := over
end Go.Proofs.Ythlopjpofmcdmaa
