/-
  DiagnoserErrors: for every input the law returns true, and each argument reads behind the call as it read before. No conditions.
-/
import Derived.Test.YtjngkimolkhdmaaGreatP12
import Derived.Test.YtjngkimolkhdmaaGreatRows
set_option linter.unusedVariables false
set_option linter.unusedSimpArgs false
set_option linter.unusedSectionVars false
namespace Go.Proofs.YtjngkimolkhdmaaGreat
open Go Go.Abs Go.ChangeShapes Go.WideShapes Go.ChangeAt Go.RowKit
set_option maxRecDepth 100000
theorem law : Qbew Tryz.prog 6 [31, 35] :=
  Qbfp A_31 (fun _ => rfl) (fun _ => rfl) A_35 (fun _ => rfl) (fun _ => rfl) fun a b wa wb M nb => Qvw a b true (Q6s a b) M nb
theorem own : ownKnob Tryz.prog.godebug = none := by kernel_rfl
theorem lifted (os : Os) (started : os.Started) (H : Type) (enc : TypeId × Value → H) :
    ReturnsInHanded {} Tryz.checked os 6 .any (Rows.diagnoserErrorsSpec.pre6 enc Tryz.prog Tryz.f6 Rows.diagnoserErrorsRow.domain false) (Rows.diagnoserErrorsSpec.post enc Tryz.prog Tryz.f6 false true false false) :=
  Qbdp (C := Tryz.checked) own started (by kernel_rfl) Tryz.func6
    (ChangeSpec.witness6 (enc := enc) (C := Tryz.checked) false ⟨#[], #[.slice none 0 0, .agg #[.slice none 0 0, .int .i64 0, .slice none 0 0, .slice none 0 0]], []⟩ 8 (by kernel_rfl) (by kernel_rfl) (by kernel_rfl) (by kernel_rfl))
    rfl rfl Tryz.underlying4 (by kernel_rfl)
    (by
      intro t ht
      have hp : Tryz.f6.params.toList = [31, 35] := by rw [Tryz.params6]
      rw [hp] at ht
      simp only [List.mem_cons, List.not_mem_nil, or_false] at ht
      rcases ht with rfl | rfl
      · exact ⟨by kernel_rfl, of_decide_eq_true (by kernel_rfl)⟩
      · exact ⟨by kernel_rfl, of_decide_eq_true (by kernel_rfl)⟩)
    (by
      intro ds hl
      have hp : Tryz.f6.params.size = 2 := by rw [Tryz.params6]; rfl
      rw [hp] at hl
      match ds, hl with
      | [da, db], _ => rfl)
    (Qbfc (by kernel_rfl))
    (by
      have hp : Tryz.f6.params.toList = [31, 35] := by rw [Tryz.params6]
      show Qbew Tryz.prog 6 Tryz.f6.params.toList
      rw [hp]; exact law)
theorem over : Rows.diagnoserErrorsRow.holds Tryz.pinned (OpenSpec.ofChange Rows.diagnoserErrorsSpec) :=
  OpenClaim.holds_of_wide 6 Tryz.f6 rfl rfl rfl rfl rfl rfl rfl ⟨rfl, rfl, rfl, rfl, rfl⟩ rfl rfl rfl rfl rfl (by kernel_rfl) Tryz.func6 (by kernel_rfl)
    (of_decide_eq_true (by kernel_rfl)) (by unfold Func.isWrapper; first | (rw [if_pos (by decide +kernel)]; kernel_rfl) | (rw [if_neg (by decide +kernel)]; exact ⟨rfl, rfl⟩))
    (fun os started H enc _ => lifted os started H enc)
theorem diagnoserErrors_holds : Rows.DiagnoserErrorsSaid := over
end Go.Proofs.YtjngkimolkhdmaaGreat
