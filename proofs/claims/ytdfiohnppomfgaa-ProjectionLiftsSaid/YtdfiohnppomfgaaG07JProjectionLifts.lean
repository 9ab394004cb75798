/-
  ProjectionLifts: for every input the law returns true, and each argument reads behind the call as it read before. No conditions.
-/
import Derived.Test.YtdfiohnppomfgaaP7
import Derived.Test.YtdfiohnppomfgaaRows
set_option linter.unusedVariables false
set_option linter.unusedSimpArgs false
set_option linter.unusedSectionVars false
namespace Go.Proofs.Ytdfiohnppomfgaa
open Go Go.Abs Go.ChangeShapes Go.WideShapes Go.ChangeAt Go.RowKit
set_option linter.unusedVariables false
set_option maxRecDepth 100000
theorem law : Qbix Try.prog 4 [44, 26, 27] :=
  Qbj5 A_44 (fun _ => rfl) (fun _ => rfl) A_26 (fun _ => rfl) (fun _ => rfl) A_27 (fun _ => rfl) (fun _ => rfl) fun a b c wa wb wc M nb => Q4t a b c true (Qbdf a b c (Qbjs wa.1) (Qbjs wa.2) (Qbjw wb)) M nb
theorem own : ownKnob Try.prog.godebug = none := by kernel_rfl
theorem lifted (os : Os) (started : os.Started) (H : Type) (enc : TypeId × Value → H) :
    ReturnsInHanded {} Try.checked os 4 .any (Rows.projectionLiftsSpec.pre6 enc Try.prog Try.f4 Rows.projectionLiftsRow.domain false) (Rows.projectionLiftsSpec.post enc Try.prog Try.f4 false true false false) :=
  Qbiy (C := Try.checked) own started (by kernel_rfl) Try.func4
    (ChangeSpec.witness6 (enc := enc) (C := Try.checked) false ⟨#[], #[.agg #[.int .u8 0, .int .u8 0], .agg #[.int .u8 0, .int .u8 0, .int .u8 0, .int .u8 0, .int .u8 0, .int .u8 0, .int .u8 0, .int .u8 0, .int .u8 0, .int .u8 0, .int .u8 0, .int .u8 0, .int .u8 0, .int .u8 0, .int .u8 0, .int .u8 0, .int .u8 0, .int .u8 0, .int .u8 0, .int .u8 0, .int .u8 0, .int .u8 0, .int .u8 0, .int .u8 0, .int .u8 0, .int .u8 0, .int .u8 0], .slice none 0 0], []⟩ 8 (by kernel_rfl) (by kernel_rfl) (by kernel_rfl) (by kernel_rfl))
    rfl rfl Try.underlying4 (by kernel_rfl)
    (by
      intro t ht
      have hp : Try.f4.params.toList = [44, 26, 27] := by rw [Try.params4]
      rw [hp] at ht
      simp only [List.mem_cons, List.not_mem_nil, or_false] at ht
      rcases ht with rfl | rfl | rfl
      · exact ⟨by kernel_rfl, of_decide_eq_true (by kernel_rfl)⟩
      · exact ⟨by kernel_rfl, of_decide_eq_true (by kernel_rfl)⟩
      · exact ⟨by kernel_rfl, of_decide_eq_true (by kernel_rfl)⟩)
    (by
      intro ds hl
      have hp : Try.f4.params.size = 3 := by rw [Try.params4]; rfl
      rw [hp] at hl
      match ds, hl with
      | [da, db, dc], _ => rfl)
    (by
      have hp : Try.f4.params.toList = [44, 26, 27] := by rw [Try.params4]
      show Qbix Try.prog 4 Try.f4.params.toList
      rw [hp]; exact law)
theorem over : Rows.projectionLiftsRow.holds Try.pinned (OpenSpec.ofChange Rows.projectionLiftsSpec) :=
  OpenClaim.holds_of_wide 4 Try.f4 rfl rfl rfl rfl rfl rfl rfl ⟨rfl, rfl, rfl, rfl, rfl⟩ rfl rfl rfl rfl rfl (by kernel_rfl) Try.func4 (by kernel_rfl)
    (of_decide_eq_true (by kernel_rfl)) (by unfold Func.isWrapper; first | (rw [if_pos (by decide +kernel)]; kernel_rfl) | (rw [if_neg (by decide +kernel)]; exact ⟨rfl, rfl⟩))
    (fun os started H enc _ => lifted os started H enc)
theorem projectionLifts_holds : Rows.ProjectionLiftsSaid := over
end Go.Proofs.Ytdfiohnppomfgaa
