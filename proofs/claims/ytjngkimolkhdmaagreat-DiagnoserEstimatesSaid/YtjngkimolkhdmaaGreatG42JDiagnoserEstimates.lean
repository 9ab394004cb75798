/-
  DiagnoserEstimates: for every input the law returns true, and each argument reads behind the call as it read before. No conditions.
-/
import Derived.Test.YtjngkimolkhdmaaGreatP12
import Derived.Test.YtjngkimolkhdmaaGreatRows
set_option linter.unusedVariables false
set_option linter.unusedSimpArgs false
set_option linter.unusedSectionVars false
namespace Go.Proofs.YtjngkimolkhdmaaGreat
open Go Go.Abs Go.ChangeShapes Go.WideShapes Go.ChangeAt Go.RowKit
set_option maxRecDepth 100000
theorem law : Qbg1 Tryz.prog 5 [29, 32] :=
  Qbhq A_29 (fun _ => rfl) (fun _ => rfl) A_32 (fun _ => rfl) (fun _ => rfl) fun a b wa wb M nb => Qwa a b true (Q5z (Qbhf wa) b) M nb
theorem own : ownKnob Tryz.prog.godebug = none := by kernel_rfl
theorem lifted (os : Os) (started : os.Started) (H : Type) (enc : TypeId × Value → H) :
    ReturnsInHanded {} Tryz.checked os 5 .any (Rows.diagnoserEstimatesSpec.pre6 enc Tryz.prog Tryz.f5 Rows.diagnoserEstimatesRow.domain false) (Rows.diagnoserEstimatesSpec.post enc Tryz.prog Tryz.f5 false true false false) :=
  Qbft (C := Tryz.checked) own started (by kernel_rfl) Tryz.func5
    (ChangeSpec.witness6 (enc := enc) (C := Tryz.checked) false ⟨#[], #[.agg #[.int .u8 0, .int .u8 0, .int .u8 0, .int .u8 0, .int .u8 0, .int .u8 0, .int .u8 0, .int .u8 0, .int .u8 0, .int .u8 0, .int .u8 0, .int .u8 0, .int .u8 0, .int .u8 0, .int .u8 0, .int .u8 0, .int .u8 0, .int .u8 0, .int .u8 0, .int .u8 0, .int .u8 0, .int .u8 0, .int .u8 0, .int .u8 0, .int .u8 0, .int .u8 0, .int .u8 0, .int .u8 0, .int .u8 0, .int .u8 0, .int .u8 0, .int .u8 0, .int .u8 0], .slice none 0 0], []⟩ 8 (by kernel_rfl) (by kernel_rfl) (by kernel_rfl) (by kernel_rfl))
    rfl rfl Tryz.underlying4 (by kernel_rfl)
    (by
      intro t ht
      have hp : Tryz.f5.params.toList = [29, 32] := by rw [Tryz.params5]
      rw [hp] at ht
      simp only [List.mem_cons, List.not_mem_nil, or_false] at ht
      rcases ht with rfl | rfl
      · exact ⟨by kernel_rfl, of_decide_eq_true (by kernel_rfl)⟩
      · exact ⟨by kernel_rfl, of_decide_eq_true (by kernel_rfl)⟩)
    (by
      intro ds hl
      have hp : Tryz.f5.params.size = 2 := by rw [Tryz.params5]; rfl
      rw [hp] at hl
      match ds, hl with
      | [da, db], _ => rfl)
    (Qbhe (by kernel_rfl))
    (by
      have hp : Tryz.f5.params.toList = [29, 32] := by rw [Tryz.params5]
      show Qbg1 Tryz.prog 5 Tryz.f5.params.toList
      rw [hp]; exact law)
theorem over : Rows.diagnoserEstimatesRow.holds Tryz.pinned (OpenSpec.ofChange Rows.diagnoserEstimatesSpec) :=
  OpenClaim.holds_of_wide 5 Tryz.f5 rfl rfl rfl rfl rfl rfl rfl ⟨rfl, rfl, rfl, rfl, rfl⟩ rfl rfl rfl rfl rfl (by kernel_rfl) Tryz.func5 (by kernel_rfl)
    (of_decide_eq_true (by kernel_rfl)) (by unfold Func.isWrapper; first | (rw [if_pos (by decide +kernel)]; kernel_rfl) | (rw [if_neg (by decide +kernel)]; exact ⟨rfl, rfl⟩))
    (fun os started H enc _ => lifted os started H enc)
theorem diagnoserEstimates_holds : Rows.DiagnoserEstimatesSaid := over
end Go.Proofs.YtjngkimolkhdmaaGreat
