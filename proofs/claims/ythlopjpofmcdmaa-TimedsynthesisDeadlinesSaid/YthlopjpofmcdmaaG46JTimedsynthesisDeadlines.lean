/-
  TimedsynthesisDeadlines: for every input the law returns true, and each argument reads behind the call as it read before. No conditions.
-/
import Derived.Test.YthlopjpofmcdmaaP5
import Derived.Test.YthlopjpofmcdmaaRows
set_option linter.unusedVariables false
set_option linter.unusedSimpArgs false
set_option linter.unusedSectionVars false
namespace Go.Proofs.Ythlopjpofmcdmaa
open Go Go.Abs Go.ChangeShapes Go.WideShapes Go.ChangeAt Go.RowKit
set_option maxRecDepth 100000
theorem law : Q87 Try.prog 4 [3, 3, 54] :=
  Qbac A_3 (fun _ => rfl) (fun _ => rfl) A_3 (fun _ => rfl) (fun _ => rfl) A_54 (fun _ => rfl) (fun _ => rfl) fun a b c wa wb wc M nb => Qtm a b c true (Q0j a b c) M nb
theorem own : ownKnob Try.prog.godebug = none := by kernel_rfl
theorem lifted (os : Os) (started : os.Started) (H : Type) (enc : TypeId × Value → H) :
    ReturnsInHanded {} Try.checked os 4 .any (Rows.timedsynthesisDeadlinesSpec.pre6 enc Try.prog Try.f4 Rows.timedsynthesisDeadlinesRow.domain false) (Rows.timedsynthesisDeadlinesSpec.post enc Try.prog Try.f4 false true false false) :=
  Q88 (C := Try.checked) own started (by kernel_rfl) Try.func4
    (ChangeSpec.witness6 (enc := enc) (C := Try.checked) false ⟨#[], #[.int .i64 0, .int .i64 0, .agg #[.int .i64 0, .int .i64 0]], []⟩ 8 (by kernel_rfl) (by kernel_rfl) (by kernel_rfl) (by kernel_rfl))
    rfl rfl Try.underlying4 (by kernel_rfl)
    (by
      intro t ht
      have hp : Try.f4.params.toList = [3, 3, 54] := by rw [Try.params4]
      rw [hp] at ht
      simp only [List.mem_cons, List.not_mem_nil, or_false] at ht
      rcases ht with rfl | rfl | rfl
      · exact ⟨by kernel_rfl, of_decide_eq_true (by kernel_rfl)⟩
      · exact ⟨by kernel_rfl, of_decide_eq_true (by kernel_rfl)⟩
      · exact ⟨by kernel_rfl, of_decide_eq_true (by kernel_rfl)⟩)
    (by
      intro ds hl
      have hp : Try.f4.params.size = 3 := by rw [Try.params4]; rfl
      rw [hp] at hl
      match ds, hl with
      | [da, db, dc], _ => rfl)
    (by
      have hp : Try.f4.params.toList = [3, 3, 54] := by rw [Try.params4]
      show Q87 Try.prog 4 Try.f4.params.toList
      rw [hp]; exact law)
theorem over : Rows.timedsynthesisDeadlinesRow.holds Try.pinned (OpenSpec.ofChange Rows.timedsynthesisDeadlinesSpec) :=
  OpenClaim.holds_of_wide 4 Try.f4 rfl rfl rfl rfl rfl rfl rfl ⟨rfl, rfl, rfl, rfl, rfl⟩ rfl rfl rfl rfl rfl (by kernel_rfl) Try.func4 (by kernel_rfl)
    (of_decide_eq_true (by kernel_rfl)) (by unfold Func.isWrapper; first | (rw [if_pos (by decide +kernel)]; kernel_rfl) | (rw [if_neg (by decide +kernel)]; exact ⟨rfl, rfl⟩))
    (fun os started H enc _ => lifted os started H enc)
theorem timedsynthesisDeadlines_holds : Rows.TimedsynthesisDeadlinesSaid := over
end Go.Proofs.Ythlopjpofmcdmaa
