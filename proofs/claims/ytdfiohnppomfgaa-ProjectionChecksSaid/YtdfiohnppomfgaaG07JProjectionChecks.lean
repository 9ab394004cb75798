/-
  ProjectionChecks: for every input the law returns true, and each argument reads behind the call as it read before. No conditions.
-/
import Derived.Test.YtdfiohnppomfgaaP6
import Derived.Test.YtdfiohnppomfgaaRows
set_option linter.unusedVariables false
set_option linter.unusedSimpArgs false
set_option linter.unusedSectionVars false
namespace Go.Proofs.Ytdfiohnppomfgaa
open Go Go.Abs Go.ChangeShapes Go.WideShapes Go.ChangeAt Go.RowKit
set_option linter.unusedVariables false
set_option maxRecDepth 100000
theorem law : Qbef Try.prog 6 [33, 27] :=
  Qbeq A_33 (fun _ => rfl) (fun _ => rfl) A_27 (fun _ => rfl) (fun _ => rfl) fun a b wa wb M nb => Q09 a b true (Q7z a b) M nb
theorem own : ownKnob Try.prog.godebug = none := by kernel_rfl
theorem lifted (os : Os) (started : os.Started) (H : Type) (enc : TypeId × Value → H) :
    ReturnsInHanded {} Try.checked os 6 .any (Rows.projectionChecksSpec.pre6 enc Try.prog Try.f6 Rows.projectionChecksRow.domain false) (Rows.projectionChecksSpec.post enc Try.prog Try.f6 false true false false) :=
  Qbdp (C := Try.checked) own started (by kernel_rfl) Try.func6
    (ChangeSpec.witness6 (enc := enc) (C := Try.checked) false ⟨#[], #[.agg #[.slice none 0 0, .int .i64 0, .slice none 0 0, .slice none 0 0], .slice none 0 0], []⟩ 8 (by kernel_rfl) (by kernel_rfl) (by kernel_rfl) (by kernel_rfl))
    rfl rfl Try.underlying4 (by kernel_rfl)
    (by
      intro t ht
      have hp : Try.f6.params.toList = [33, 27] := by rw [Try.params6]
      rw [hp] at ht
      simp only [List.mem_cons, List.not_mem_nil, or_false] at ht
      rcases ht with rfl | rfl
      · exact ⟨by kernel_rfl, of_decide_eq_true (by kernel_rfl)⟩
      · exact ⟨by kernel_rfl, of_decide_eq_true (by kernel_rfl)⟩)
    (by
      intro ds hl
      have hp : Try.f6.params.size = 2 := by rw [Try.params6]; rfl
      rw [hp] at hl
      match ds, hl with
      | [da, db], _ => rfl)
    (by
      have hp : Try.f6.params.toList = [33, 27] := by rw [Try.params6]
      show Qbef Try.prog 6 Try.f6.params.toList
      rw [hp]; exact law)
theorem over : Rows.projectionChecksRow.holds Try.pinned (OpenSpec.ofChange Rows.projectionChecksSpec) :=
  OpenClaim.holds_of_wide 6 Try.f6 rfl rfl rfl rfl rfl rfl rfl ⟨rfl, rfl, rfl, rfl, rfl⟩ rfl rfl rfl rfl rfl (by kernel_rfl) Try.func6 (by kernel_rfl)
    (of_decide_eq_true (by kernel_rfl)) (by unfold Func.isWrapper; first | (rw [if_pos (by decide +kernel)]; kernel_rfl) | (rw [if_neg (by decide +kernel)]; exact ⟨rfl, rfl⟩))
    (fun os started H enc _ => lifted os started H enc)
theorem projectionChecks_holds : Rows.ProjectionChecksSaid := over
end Go.Proofs.Ytdfiohnppomfgaa
