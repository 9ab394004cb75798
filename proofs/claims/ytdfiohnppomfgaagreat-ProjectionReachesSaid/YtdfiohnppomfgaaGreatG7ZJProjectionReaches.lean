/-
  ProjectionReaches: for every input the law returns true, and each argument reads behind the call as it read before. No conditions.
-/
import Derived.Test.YtdfiohnppomfgaaGreatP7
import Derived.Test.YtdfiohnppomfgaaGreatRows
set_option linter.unusedVariables false
set_option linter.unusedSimpArgs false
set_option linter.unusedSectionVars false
namespace Go.Proofs.YtdfiohnppomfgaaGreat
open Go Go.Abs Go.ChangeShapes Go.WideShapes Go.ChangeAt Go.RowKit
set_option linter.unusedVariables false
set_option maxRecDepth 100000
theorem law : Qbl1 Tryz.prog 4 [45, 26, 47] :=
  Qbm9 A_45 (fun _ => rfl) (fun _ => rfl) A_26 (fun _ => rfl) (fun _ => rfl) A_47 (fun _ => rfl) (fun _ => rfl) fun a b c wa wb wc M nb => Q61 a b c true (Qbey a b c (Qbmz wa.1) (Qbmz wa.2) (Qbm0 wb)) M nb
theorem own : ownKnob Tryz.prog.godebug = none := by kernel_rfl
theorem lifted (os : Os) (started : os.Started) (H : Type) (enc : TypeId × Value → H) :
    ReturnsInHanded {} Tryz.checked os 4 .any (Rows.projectionReachesSpec.pre6 enc Tryz.prog Tryz.f4 Rows.projectionReachesRow.domain false) (Rows.projectionReachesSpec.post enc Tryz.prog Tryz.f4 false true false false) :=
  Qbl2 (C := Tryz.checked) own started (by kernel_rfl) Tryz.func4
    (ChangeSpec.witness6 (enc := enc) (C := Tryz.checked) false ⟨#[], #[.agg #[.int .u8 0, .int .u8 0], .agg #[.int .u8 0, .int .u8 0, .int .u8 0, .int .u8 0, .int .u8 0, .int .u8 0, .int .u8 0, .int .u8 0, .int .u8 0, .int .u8 0, .int .u8 0, .int .u8 0, .int .u8 0, .int .u8 0, .int .u8 0, .int .u8 0, .int .u8 0, .int .u8 0, .int .u8 0, .int .u8 0, .int .u8 0, .int .u8 0, .int .u8 0, .int .u8 0, .int .u8 0, .int .u8 0, .int .u8 0], .agg #[.int .u8 0, .slice none 0 0, .int .i64 0]], []⟩ 8 (by kernel_rfl) (by kernel_rfl) (by kernel_rfl) (by kernel_rfl))
    rfl rfl Tryz.underlying4 (by kernel_rfl)
    (by
      intro t ht
      have hp : Tryz.f4.params.toList = [45, 26, 47] := by rw [Tryz.params4]
      rw [hp] at ht
      simp only [List.mem_cons, List.not_mem_nil, or_false] at ht
      rcases ht with rfl | rfl | rfl
      · exact ⟨by kernel_rfl, of_decide_eq_true (by kernel_rfl)⟩
      · exact ⟨by kernel_rfl, of_decide_eq_true (by kernel_rfl)⟩
      · exact ⟨by kernel_rfl, of_decide_eq_true (by kernel_rfl)⟩)
    (by
      intro ds hl
      have hp : Tryz.f4.params.size = 3 := by rw [Tryz.params4]; rfl
      rw [hp] at hl
      match ds, hl with
      | [da, db, dc], _ => rfl)
    (by
      have hp : Tryz.f4.params.toList = [45, 26, 47] := by rw [Tryz.params4]
      show Qbl1 Tryz.prog 4 Tryz.f4.params.toList
      rw [hp]; exact law)
theorem over : Rows.projectionReachesRow.holds Tryz.pinned (OpenSpec.ofChange Rows.projectionReachesSpec) :=
  OpenClaim.holds_of_wide 4 Tryz.f4 rfl rfl rfl rfl rfl rfl rfl ⟨rfl, rfl, rfl, rfl, rfl⟩ rfl rfl rfl rfl rfl (by kernel_rfl) Tryz.func4 (by kernel_rfl)
    (of_decide_eq_true (by kernel_rfl)) (by unfold Func.isWrapper; first | (rw [if_pos (by decide +kernel)]; kernel_rfl) | (rw [if_neg (by decide +kernel)]; exact ⟨rfl, rfl⟩))
    (fun os started H enc _ => lifted os started H enc)
theorem projectionReaches_holds : Rows.ProjectionReachesSaid := over
end Go.Proofs.YtdfiohnppomfgaaGreat
