/-
  ProjectionTwice: for every input the law returns true, and each argument reads behind the call as it read before. No conditions.
-/
import Derived.Test.YtdfiohnppomfgaaP7
import Derived.Test.YtdfiohnppomfgaaRows
set_option linter.unusedVariables false
set_option linter.unusedSimpArgs false
set_option linter.unusedSectionVars false
namespace Go.Proofs.Ytdfiohnppomfgaa
open Go Go.Abs Go.ChangeShapes Go.WideShapes Go.ChangeAt Go.RowKit
set_option linter.unusedVariables false
set_option maxRecDepth 100000
theorem law : Qblv Try.prog 5 [53, 26] :=
  Qbma A_53 (fun _ => rfl) (fun _ => rfl) A_26 (fun _ => rfl) (fun _ => rfl) fun a b wa wb M nb => Q4v a b true (Qbe3 a b (Qblw wa.1) (Qblw wa.2.1) (Qblw wa.2.2) (Qbl2 wb)) M nb
theorem own : ownKnob Try.prog.godebug = none := by kernel_rfl
theorem lifted (os : Os) (started : os.Started) (H : Type) (enc : TypeId × Value → H) :
    ReturnsInHanded {} Try.checked os 5 .any (Rows.projectionTwiceSpec.pre6 enc Try.prog Try.f5 Rows.projectionTwiceRow.domain false) (Rows.projectionTwiceSpec.post enc Try.prog Try.f5 false true false false) :=
  Qbkw (C := Try.checked) own started (by kernel_rfl) Try.func5
    (ChangeSpec.witness6 (enc := enc) (C := Try.checked) false ⟨#[], #[.agg #[.int .u8 0, .int .u8 0, .int .u8 0], .agg #[.int .u8 0, .int .u8 0, .int .u8 0, .int .u8 0, .int .u8 0, .int .u8 0, .int .u8 0, .int .u8 0, .int .u8 0, .int .u8 0, .int .u8 0, .int .u8 0, .int .u8 0, .int .u8 0, .int .u8 0, .int .u8 0, .int .u8 0, .int .u8 0, .int .u8 0, .int .u8 0, .int .u8 0, .int .u8 0, .int .u8 0, .int .u8 0, .int .u8 0, .int .u8 0, .int .u8 0]], []⟩ 8 (by kernel_rfl) (by kernel_rfl) (by kernel_rfl) (by kernel_rfl))
    rfl rfl Try.underlying4 (by kernel_rfl)
    (by
      intro t ht
      have hp : Try.f5.params.toList = [53, 26] := by rw [Try.params5]
      rw [hp] at ht
      simp only [List.mem_cons, List.not_mem_nil, or_false] at ht
      rcases ht with rfl | rfl
      · exact ⟨by kernel_rfl, of_decide_eq_true (by kernel_rfl)⟩
      · exact ⟨by kernel_rfl, of_decide_eq_true (by kernel_rfl)⟩)
    (by
      intro ds hl
      have hp : Try.f5.params.size = 2 := by rw [Try.params5]; rfl
      rw [hp] at hl
      match ds, hl with
      | [da, db], _ => rfl)
    (by
      have hp : Try.f5.params.toList = [53, 26] := by rw [Try.params5]
      show Qblv Try.prog 5 Try.f5.params.toList
      rw [hp]; exact law)
theorem over : Rows.projectionTwiceRow.holds Try.pinned (OpenSpec.ofChange Rows.projectionTwiceSpec) :=
  OpenClaim.holds_of_wide 5 Try.f5 rfl rfl rfl rfl rfl rfl rfl ⟨rfl, rfl, rfl, rfl, rfl⟩ rfl rfl rfl rfl rfl (by kernel_rfl) Try.func5 (by kernel_rfl)
    (of_decide_eq_true (by kernel_rfl)) (by unfold Func.isWrapper; first | (rw [if_pos (by decide +kernel)]; kernel_rfl) | (rw [if_neg (by decide +kernel)]; exact ⟨rfl, rfl⟩))
    (fun os started H enc _ => lifted os started H enc)
theorem projectionTwice_holds : Rows.ProjectionTwiceSaid := over
end Go.Proofs.Ytdfiohnppomfgaa
