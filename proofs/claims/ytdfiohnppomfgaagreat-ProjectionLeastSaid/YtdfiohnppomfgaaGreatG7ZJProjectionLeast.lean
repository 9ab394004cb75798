/-
  ProjectionLeast: for every input the law returns true, and each argument reads behind the call as it read before. No conditions.
-/
import Derived.Test.YtdfiohnppomfgaaGreatP7
import Derived.Test.YtdfiohnppomfgaaGreatRows
set_option linter.unusedVariables false
set_option linter.unusedSimpArgs false
set_option linter.unusedSectionVars false
namespace Go.Proofs.YtdfiohnppomfgaaGreat
open Go Go.Abs Go.ChangeShapes Go.WideShapes Go.ChangeAt Go.RowKit
set_option maxRecDepth 100000
theorem law : Qbo4 Tryz.prog 7 [45, 26, 67] :=
  Qbqj A_45 (fun _ => rfl) (fun _ => rfl) A_26 (fun _ => rfl) (fun _ => rfl) A_67 (fun _ => rfl) (fun _ => rfl) fun a b c wa wb wc M nb => Q9p a b c true (Qbi8 a b c (Qbp4 wa.1) (Qbp4 wa.2) (Qbp9 wb) (Qbqk wc)) M nb
theorem own : ownKnob Tryz.prog.godebug = none := by kernel_rfl
theorem lifted (os : Os) (started : os.Started) (H : Type) (enc : TypeId × Value → H) :
    ReturnsInHanded {} Tryz.checked os 7 .any (Rows.projectionLeastSpec.pre6 enc Tryz.prog Tryz.f7 Rows.projectionLeastRow.domain false) (Rows.projectionLeastSpec.post enc Tryz.prog Tryz.f7 false true false false) :=
  Qbo5 (C := Tryz.checked) own started (by kernel_rfl) Tryz.func7
    (ChangeSpec.witness6 (enc := enc) (C := Tryz.checked) false ⟨#[], #[.agg #[.int .u8 0, .int .u8 0], .agg #[.int .u8 0, .int .u8 0, .int .u8 0, .int .u8 0, .int .u8 0, .int .u8 0, .int .u8 0, .int .u8 0, .int .u8 0, .int .u8 0, .int .u8 0, .int .u8 0, .int .u8 0, .int .u8 0, .int .u8 0, .int .u8 0, .int .u8 0, .int .u8 0, .int .u8 0, .int .u8 0, .int .u8 0, .int .u8 0, .int .u8 0, .int .u8 0, .int .u8 0, .int .u8 0, .int .u8 0], .int .u16 0], []⟩ 8 (by kernel_rfl) (by kernel_rfl) (by kernel_rfl) (by kernel_rfl))
    rfl rfl Tryz.underlying4 (by kernel_rfl)
    (by
      intro t ht
      have hp : Tryz.f7.params.toList = [45, 26, 67] := by rw [Tryz.params7]
      rw [hp] at ht
      simp only [List.mem_cons, List.not_mem_nil, or_false] at ht
      rcases ht with rfl | rfl | rfl
      · exact ⟨by kernel_rfl, of_decide_eq_true (by kernel_rfl)⟩
      · exact ⟨by kernel_rfl, of_decide_eq_true (by kernel_rfl)⟩
      · exact ⟨by kernel_rfl, of_decide_eq_true (by kernel_rfl)⟩)
    (by
      intro ds hl
      have hp : Tryz.f7.params.size = 3 := by rw [Tryz.params7]; rfl
      rw [hp] at hl
      match ds, hl with
      | [da, db, dc], _ => rfl)
    (by
      have hp : Tryz.f7.params.toList = [45, 26, 67] := by rw [Tryz.params7]
      show Qbo4 Tryz.prog 7 Tryz.f7.params.toList
      rw [hp]; exact law)
theorem over : Rows.projectionLeastRow.holds Tryz.pinned (OpenSpec.ofChange Rows.projectionLeastSpec) :=
  OpenClaim.holds_of_wide 7 Tryz.f7 rfl rfl rfl rfl rfl rfl rfl ⟨rfl, rfl, rfl, rfl, rfl⟩ rfl rfl rfl rfl rfl (by kernel_rfl) Tryz.func7 (by kernel_rfl)
    (of_decide_eq_true (by kernel_rfl)) (by unfold Func.isWrapper; first | (rw [if_pos (by decide +kernel)]; kernel_rfl) | (rw [if_neg (by decide +kernel)]; exact ⟨rfl, rfl⟩))
    (fun os started H enc _ => lifted os started H enc)
theorem projectionLeast_holds : Rows.ProjectionLeastSaid := over
end Go.Proofs.YtdfiohnppomfgaaGreat
