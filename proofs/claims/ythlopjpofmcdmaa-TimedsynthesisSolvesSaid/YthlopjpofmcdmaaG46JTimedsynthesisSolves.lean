/-
  TimedsynthesisSolves: for every input the law returns true, and each argument reads behind the call as it read before. No conditions.
-/
import Derived.Test.YthlopjpofmcdmaaP7
import Derived.Test.YthlopjpofmcdmaaRows
set_option linter.unusedVariables false
set_option linter.unusedSimpArgs false
set_option linter.unusedSectionVars false
namespace Go.Proofs.Ythlopjpofmcdmaa
open Go Go.Abs Go.ChangeShapes Go.WideShapes Go.ChangeAt Go.RowKit
set_option maxRecDepth 100000
theorem law : Qbmi Try.prog 3 [30] :=
  Qbmx A_30 (fun _ => rfl) (fun _ => rfl) fun a wa M nb => Q5d a true (Qbcs (Qbmp wa)) M nb
theorem own : ownKnob Try.prog.godebug = none := by kernel_rfl
theorem lifted (os : Os) (started : os.Started) (H : Type) (enc : TypeId × Value → H) :
    ReturnsInHanded {} Try.checked os 3 .any (Rows.timedsynthesisSolvesSpec.pre6 enc Try.prog Try.f3 Rows.timedsynthesisSolvesRow.domain false) (Rows.timedsynthesisSolvesSpec.post enc Try.prog Try.f3 false true false false) :=
  Qblo (C := Try.checked) own started (by kernel_rfl) Try.func3
    (ChangeSpec.witness6 (enc := enc) (C := Try.checked) false ⟨#[], #[.agg #[.int .u8 0, .int .u8 0, .int .u8 0, .int .u8 0, .int .u8 0, .int .u8 0, .int .u8 0, .int .u8 0, .int .u8 0, .int .u8 0, .int .u8 0, .int .u8 0, .int .u8 0, .int .u8 0, .int .u8 0, .int .u8 0, .int .u8 0, .int .u8 0, .int .u8 0, .int .u8 0, .int .u8 0, .int .u8 0, .int .u8 0, .int .u8 0, .int .u8 0, .int .u8 0, .int .u8 0, .int .u8 0, .int .u8 0, .int .u8 0, .int .u8 0]], []⟩ 8 (by kernel_rfl) (by kernel_rfl) (by kernel_rfl) (by kernel_rfl))
    rfl rfl Try.underlying4 (by kernel_rfl)
    (by
      intro t ht
      have hp : Try.f3.params.toList = [30] := by rw [Try.params3]
      rw [hp] at ht
      simp only [List.mem_cons, List.not_mem_nil, or_false] at ht
      rcases ht with rfl
      · exact ⟨by kernel_rfl, of_decide_eq_true (by kernel_rfl)⟩)
    (by
      intro ds hl
      have hp : Try.f3.params.size = 1 := by rw [Try.params3]; rfl
      rw [hp] at hl
      match ds, hl with
      | [da], _ => rfl)
    (by
      have hp : Try.f3.params.toList = [30] := by rw [Try.params3]
      show Qbmi Try.prog 3 Try.f3.params.toList
      rw [hp]; exact law)
theorem over : Rows.timedsynthesisSolvesRow.holds Try.pinned (OpenSpec.ofChange Rows.timedsynthesisSolvesSpec) :=
  OpenClaim.holds_of_wide 3 Try.f3 rfl rfl rfl rfl rfl rfl rfl ⟨rfl, rfl, rfl, rfl, rfl⟩ rfl rfl rfl rfl rfl (by kernel_rfl) Try.func3 (by kernel_rfl)
    (of_decide_eq_true (by kernel_rfl)) (by unfold Func.isWrapper; first | (rw [if_pos (by decide +kernel)]; kernel_rfl) | (rw [if_neg (by decide +kernel)]; exact ⟨rfl, rfl⟩))
    (fun os started H enc _ => lifted os started H enc)
theorem timedsynthesisSolves_holds : Rows.TimedsynthesisSolvesSaid := over
end Go.Proofs.Ythlopjpofmcdmaa
