/-
  DiagnoserBuilds: for every input the law returns true, and each argument reads behind the call as it read before. No conditions.
-/
import Derived.Test.YtjngkimolkhdmaaGreatP12
import Derived.Test.YtjngkimolkhdmaaGreatRows
set_option linter.unusedVariables false
set_option linter.unusedSimpArgs false
set_option linter.unusedSectionVars false
namespace Go.Proofs.YtjngkimolkhdmaaGreat
open Go Go.Abs Go.ChangeShapes Go.WideShapes Go.ChangeAt Go.RowKit
set_option maxRecDepth 100000
theorem law : Qbhc Tryz.prog 4 [29] :=
  Qbh3 A_29 (fun _ => rfl) (fun _ => rfl) fun a wa M nb => Qxz a true (Q80 (Qbhr wa)) M nb
theorem own : ownKnob Tryz.prog.godebug = none := by kernel_rfl
theorem lifted (os : Os) (started : os.Started) (H : Type) (enc : TypeId × Value → H) :
    ReturnsInHanded {} Tryz.checked os 4 .any (Rows.diagnoserBuildsSpec.pre6 enc Tryz.prog Tryz.f4 Rows.diagnoserBuildsRow.domain false) (Rows.diagnoserBuildsSpec.post enc Tryz.prog Tryz.f4 false true false false) :=
  Qbf5 (C := Tryz.checked) own started (by kernel_rfl) Tryz.func4
    (ChangeSpec.witness6 (enc := enc) (C := Tryz.checked) false ⟨#[], #[.agg #[.int .u8 0, .int .u8 0, .int .u8 0, .int .u8 0, .int .u8 0, .int .u8 0, .int .u8 0, .int .u8 0, .int .u8 0, .int .u8 0, .int .u8 0, .int .u8 0, .int .u8 0, .int .u8 0, .int .u8 0, .int .u8 0, .int .u8 0, .int .u8 0, .int .u8 0, .int .u8 0, .int .u8 0, .int .u8 0, .int .u8 0, .int .u8 0, .int .u8 0, .int .u8 0, .int .u8 0, .int .u8 0, .int .u8 0, .int .u8 0, .int .u8 0, .int .u8 0, .int .u8 0]], []⟩ 8 (by kernel_rfl) (by kernel_rfl) (by kernel_rfl) (by kernel_rfl))
    rfl rfl Tryz.underlying4 (by kernel_rfl)
    (by
      intro t ht
      have hp : Tryz.f4.params.toList = [29] := by rw [Tryz.params4]
      rw [hp] at ht
      simp only [List.mem_cons, List.not_mem_nil, or_false] at ht
      rcases ht with rfl
      · exact ⟨by kernel_rfl, of_decide_eq_true (by kernel_rfl)⟩)
    (by
      intro ds hl
      have hp : Tryz.f4.params.size = 1 := by rw [Tryz.params4]; rfl
      rw [hp] at hl
      match ds, hl with
      | [da], _ => rfl)
    (Qbhq (by kernel_rfl))
    (by
      have hp : Tryz.f4.params.toList = [29] := by rw [Tryz.params4]
      show Qbhc Tryz.prog 4 Tryz.f4.params.toList
      rw [hp]; exact law)
theorem over : Rows.diagnoserBuildsRow.holds Tryz.pinned (OpenSpec.ofChange Rows.diagnoserBuildsSpec) :=
  OpenClaim.holds_of_wide 4 Tryz.f4 rfl rfl rfl rfl rfl rfl rfl ⟨rfl, rfl, rfl, rfl, rfl⟩ rfl rfl rfl rfl rfl (by kernel_rfl) Tryz.func4 (by kernel_rfl)
    (of_decide_eq_true (by kernel_rfl)) (by unfold Func.isWrapper; first | (rw [if_pos (by decide +kernel)]; kernel_rfl) | (rw [if_neg (by decide +kernel)]; exact ⟨rfl, rfl⟩))
    (fun os started H enc _ => lifted os started H enc)
theorem diagnoserBuilds_holds : Rows.DiagnoserBuildsSaid := over
end Go.Proofs.YtjngkimolkhdmaaGreat
