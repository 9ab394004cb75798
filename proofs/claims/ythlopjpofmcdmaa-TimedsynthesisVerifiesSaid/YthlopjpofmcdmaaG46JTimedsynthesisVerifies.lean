/-
  TimedsynthesisVerifies: for every input the law returns true, and each argument reads behind the call as it read before. No conditions.
-/
import Derived.Test.YthlopjpofmcdmaaP11
import Derived.Test.YthlopjpofmcdmaaRows
set_option linter.unusedVariables false
set_option linter.unusedSimpArgs false
set_option linter.unusedSectionVars false
namespace Go.Proofs.Ythlopjpofmcdmaa
open Go Go.Abs Go.ChangeShapes Go.WideShapes Go.ChangeAt Go.RowKit
set_option maxRecDepth 100000
theorem law : Qbgm Try.prog 6 [30, 72] :=
  Qbha A_30 (fun _ => rfl) (fun _ => rfl) A_72 (fun _ => rfl) (fun _ => rfl) fun a b wa wb M nb => Quz a b true (Qbb4 (Qbgr wa) (Qbgw wb.1) (Qbgw wb.2)) M nb
theorem own : ownKnob Try.prog.godebug = none := by kernel_rfl
theorem lifted (os : Os) (started : os.Started) (H : Type) (enc : TypeId × Value → H) :
    ReturnsInHanded {} Try.checked os 6 .any (Rows.timedsynthesisVerifiesSpec.pre6 enc Try.prog Try.f6 Rows.timedsynthesisVerifiesRow.domain false) (Rows.timedsynthesisVerifiesSpec.post enc Try.prog Try.f6 false true false false) :=
  Qbe7 (C := Try.checked) own started (by kernel_rfl) Try.func6
    (ChangeSpec.witness6 (enc := enc) (C := Try.checked) false ⟨#[], #[.agg #[.int .u8 0, .int .u8 0, .int .u8 0, .int .u8 0, .int .u8 0, .int .u8 0, .int .u8 0, .int .u8 0, .int .u8 0, .int .u8 0, .int .u8 0, .int .u8 0, .int .u8 0, .int .u8 0, .int .u8 0, .int .u8 0, .int .u8 0, .int .u8 0, .int .u8 0, .int .u8 0, .int .u8 0, .int .u8 0, .int .u8 0, .int .u8 0, .int .u8 0, .int .u8 0, .int .u8 0, .int .u8 0, .int .u8 0, .int .u8 0, .int .u8 0], .agg #[.int .u8 0, .int .u8 0, .int .i8 0, .int .u8 0, .int .u8 0, .int .i8 0]], []⟩ 8 (by kernel_rfl) (by kernel_rfl) (by kernel_rfl) (by kernel_rfl))
    rfl rfl Try.underlying4 (by kernel_rfl)
    (by
      intro t ht
      have hp : Try.f6.params.toList = [30, 72] := by rw [Try.params6]
      rw [hp] at ht
      simp only [List.mem_cons, List.not_mem_nil, or_false] at ht
      rcases ht with rfl | rfl
      · exact ⟨by kernel_rfl, of_decide_eq_true (by kernel_rfl)⟩
      · exact ⟨by kernel_rfl, of_decide_eq_true (by kernel_rfl)⟩)
    (by
      intro ds hl
      have hp : Try.f6.params.size = 2 := by rw [Try.params6]; rfl
      rw [hp] at hl
      match ds, hl with
      | [da, db], _ => rfl)
    (by
      have hp : Try.f6.params.toList = [30, 72] := by rw [Try.params6]
      show Qbgm Try.prog 6 Try.f6.params.toList
      rw [hp]; exact law)
theorem over : Rows.timedsynthesisVerifiesRow.holds Try.pinned (OpenSpec.ofChange Rows.timedsynthesisVerifiesSpec) :=
  OpenClaim.holds_of_wide 6 Try.f6 rfl rfl rfl rfl rfl rfl rfl ⟨rfl, rfl, rfl, rfl, rfl⟩ rfl rfl rfl rfl rfl (by kernel_rfl) Try.func6 (by kernel_rfl)
    (of_decide_eq_true (by kernel_rfl)) (by unfold Func.isWrapper; first | (rw [if_pos (by decide +kernel)]; kernel_rfl) | (rw [if_neg (by decide +kernel)]; exact ⟨rfl, rfl⟩))
    (fun os started H enc _ => lifted os started H enc)
theorem timedsynthesisVerifies_holds : Rows.TimedsynthesisVerifiesSaid := over
end Go.Proofs.Ythlopjpofmcdmaa
