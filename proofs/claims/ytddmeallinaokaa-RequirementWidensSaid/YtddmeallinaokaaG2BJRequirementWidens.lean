/-
  RequirementWidens: for every input the law returns true, and each argument reads behind the call as it read before. No conditions.
-/
import Derived.Test.YtddmeallinaokaaP7
import Derived.Test.YtddmeallinaokaaRows
set_option linter.unusedVariables false
set_option linter.unusedSimpArgs false
set_option linter.unusedSectionVars false
namespace Go.Proofs.Ytddmeallinaokaa
open Go Go.Abs Go.ChangeShapes Go.WideShapes Go.ChangeAt Go.RowKit
set_option linter.unusedVariables false
set_option maxRecDepth 100000
theorem law : Qbl8 Try.prog 3 [22, 26, 27] :=
  Qbnn A_22 (fun _ => rfl) (fun _ => rfl) A_26 (fun _ => rfl) (fun _ => rfl) A_27 (fun _ => rfl) (fun _ => rfl) fun a b c wa wb wc M nb => Q5i a b c true (Qbeh a b c (Qbm7 wa) (Qbnb wb)) M nb
theorem own : ownKnob Try.prog.godebug = none := by kernel_rfl
theorem lifted (os : Os) (started : os.Started) (H : Type) (enc : TypeId × Value → H) :
    ReturnsInHanded {} Try.checked os 3 .any (Rows.requirementWidensSpec.pre6 enc Try.prog Try.f3 Rows.requirementWidensRow.domain false) (Rows.requirementWidensSpec.post enc Try.prog Try.f3 false true false false) :=
  Qbl9 (C := Try.checked) own started (by kernel_rfl) Try.func3
    (ChangeSpec.witness6 (enc := enc) (C := Try.checked) false ⟨#[], #[.int .u8 0, .agg #[.int .u8 0, .int .u8 0, .int .u8 0, .int .u8 0, .int .u8 0, .int .u8 0, .int .u8 0, .int .u8 0, .int .u8 0, .int .u8 0, .int .u8 0, .int .u8 0, .int .u8 0, .int .u8 0, .int .u8 0, .int .u8 0, .int .u8 0, .int .u8 0, .int .u8 0, .int .u8 0, .int .u8 0, .int .u8 0, .int .u8 0, .int .u8 0, .int .u8 0, .int .u8 0, .int .u8 0], .slice none 0 0], []⟩ 8 (by kernel_rfl) (by kernel_rfl) (by kernel_rfl) (by kernel_rfl))
    rfl rfl Try.underlying4 (by kernel_rfl)
    (by
      intro t ht
      have hp : Try.f3.params.toList = [22, 26, 27] := by rw [Try.params3]
      rw [hp] at ht
      simp only [List.mem_cons, List.not_mem_nil, or_false] at ht
      rcases ht with rfl | rfl | rfl
      · exact ⟨by kernel_rfl, of_decide_eq_true (by kernel_rfl)⟩
      · exact ⟨by kernel_rfl, of_decide_eq_true (by kernel_rfl)⟩
      · exact ⟨by kernel_rfl, of_decide_eq_true (by kernel_rfl)⟩)
    (by
      intro ds hl
      have hp : Try.f3.params.size = 3 := by rw [Try.params3]; rfl
      rw [hp] at hl
      match ds, hl with
      | [da, db, dc], _ => rfl)
    (by
      have hp : Try.f3.params.toList = [22, 26, 27] := by rw [Try.params3]
      show Qbl8 Try.prog 3 Try.f3.params.toList
      rw [hp]; exact law)
theorem over : Rows.requirementWidensRow.holds Try.pinned (OpenSpec.ofChange Rows.requirementWidensSpec) :=
  OpenClaim.holds_of_wide 3 Try.f3 rfl rfl rfl rfl rfl rfl rfl ⟨rfl, rfl, rfl, rfl, rfl⟩ rfl rfl rfl rfl rfl (by kernel_rfl) Try.func3 (by kernel_rfl)
    (of_decide_eq_true (by kernel_rfl)) (by unfold Func.isWrapper; first | (rw [if_pos (by decide +kernel)]; kernel_rfl) | (rw [if_neg (by decide +kernel)]; exact ⟨rfl, rfl⟩))
    (fun os started H enc _ => lifted os started H enc)
theorem requirementWidens_holds : Rows.RequirementWidensSaid := over
end Go.Proofs.Ytddmeallinaokaa
