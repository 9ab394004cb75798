/-
  TimedsynthesisGreatest: for every input the law returns true, and each argument reads behind the call as it read before. No conditions.
-/
import Derived.Test.YthlopjpofmcdmaaP6
import Derived.Test.YthlopjpofmcdmaaRows
set_option linter.unusedVariables false
set_option linter.unusedSimpArgs false
set_option linter.unusedSectionVars false
namespace Go.Proofs.Ythlopjpofmcdmaa
open Go Go.Abs Go.ChangeShapes Go.WideShapes Go.ChangeAt Go.RowKit
set_option maxRecDepth 100000
theorem law : Qblm Try.prog 5 [30] :=
  Qbl1 A_30 (fun _ => rfl) (fun _ => rfl) fun a wa M nb => Q2c a true (Q9t (Qbls wa)) M nb
theorem own : ownKnob Try.prog.godebug = none := by kernel_rfl
theorem lifted (os : Os) (started : os.Started) (H : Type) (enc : TypeId × Value → H) :
    ReturnsInHanded {} Try.checked os 5 .any (Rows.timedsynthesisGreatestSpec.pre6 enc Try.prog Try.f5 Rows.timedsynthesisGreatestRow.domain false) (Rows.timedsynthesisGreatestSpec.post enc Try.prog Try.f5 false true false false) :=
  Qbku (C := Try.checked) own started (by kernel_rfl) Try.func5
    (ChangeSpec.witness6 (enc := enc) (C := Try.checked) false ⟨#[], #[.agg #[.int .u8 0, .int .u8 0, .int .u8 0, .int .u8 0, .int .u8 0, .int .u8 0, .int .u8 0, .int .u8 0, .int .u8 0, .int .u8 0, .int .u8 0, .int .u8 0, .int .u8 0, .int .u8 0, .int .u8 0, .int .u8 0, .int .u8 0, .int .u8 0, .int .u8 0, .int .u8 0, .int .u8 0, .int .u8 0, .int .u8 0, .int .u8 0, .int .u8 0, .int .u8 0, .int .u8 0, .int .u8 0, .int .u8 0, .int .u8 0, .int .u8 0]], []⟩ 8 (by kernel_rfl) (by kernel_rfl) (by kernel_rfl) (by kernel_rfl))
    rfl rfl Try.underlying4 (by kernel_rfl)
    (by
      intro t ht
      have hp : Try.f5.params.toList = [30] := by rw [Try.params5]
      rw [hp] at ht
      simp only [List.mem_cons, List.not_mem_nil, or_false] at ht
      rcases ht with rfl
      · exact ⟨by kernel_rfl, of_decide_eq_true (by kernel_rfl)⟩)
    (by
      intro ds hl
      have hp : Try.f5.params.size = 1 := by rw [Try.params5]; rfl
      rw [hp] at hl
      match ds, hl with
      | [da], _ => rfl)
    (by
      have hp : Try.f5.params.toList = [30] := by rw [Try.params5]
      show Qblm Try.prog 5 Try.f5.params.toList
      rw [hp]; exact law)
theorem over : Rows.timedsynthesisGreatestRow.holds Try.pinned (OpenSpec.ofChange Rows.timedsynthesisGreatestSpec) :=
  OpenClaim.holds_of_wide 5 Try.f5 rfl rfl rfl rfl rfl rfl rfl ⟨rfl, rfl, rfl, rfl, rfl⟩ rfl rfl rfl rfl rfl (by kernel_rfl) Try.func5 (by kernel_rfl)
    (of_decide_eq_true (by kernel_rfl)) (by unfold Func.isWrapper; first | (rw [if_pos (by decide +kernel)]; kernel_rfl) | (rw [if_neg (by decide +kernel)]; exact ⟨rfl, rfl⟩))
    (fun os started H enc _ => lifted os started H enc)
theorem timedsynthesisGreatest_holds : Rows.TimedsynthesisGreatestSaid := over
end Go.Proofs.Ythlopjpofmcdmaa
