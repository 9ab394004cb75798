/-
  AutomatonMany: for every input the law returns true, and each argument reads behind the call as it read before. No conditions.
-/
import Derived.Test.YtkikefkbidaiaaaP5
import Derived.Test.YtkikefkbidaiaaaRows
set_option linter.unusedVariables false
set_option linter.unusedSimpArgs false
set_option linter.unusedSectionVars false
namespace Go.Proofs.Ytkikefkbidaiaaa
open Go Go.Abs Go.ChangeShapes Go.WideShapes Go.ChangeAt Go.RowKit
set_option linter.unusedVariables false
set_option maxRecDepth 100000
theorem law : LawOK Try.prog 4 [5, 4] :=
  lawOK2 A_5 (fun _ => rfl) (fun _ => rfl) A_4 (fun _ => rfl) (fun _ => rfl) fun a b wa wb M nb => ok_overseerlaw03_AutomatonMany a b true (automatonMany_ok a b (wf_u8 wa)) M nb
theorem own : ownKnob Try.prog.godebug = none := by kernel_rfl
theorem lifted (os : Os) (started : os.Started) (H : Type) (enc : TypeId × Value → H) :
    ReturnsInHanded {} Try.checked os 4 .any (Rows.automatonManySpec.pre6 enc Try.prog Try.f4 Rows.automatonManyRow.domain false) (Rows.automatonManySpec.post enc Try.prog Try.f4 false true false false) :=
  law_returns (C := Try.checked) own started (by kernel_rfl) Try.func4
    (ChangeSpec.witness6 (enc := enc) (C := Try.checked) false ⟨#[], #[.int .u8 0, .bool false], []⟩ 8 (by kernel_rfl) (by kernel_rfl) (by kernel_rfl) (by kernel_rfl))
    rfl rfl Try.underlying4 (by kernel_rfl)
    (by
      intro t ht
      have hp : Try.f4.params.toList = [5, 4] := by rw [Try.params4]
      rw [hp] at ht
      simp only [List.mem_cons, List.not_mem_nil, or_false] at ht
      rcases ht with rfl | rfl
      · exact ⟨by kernel_rfl, of_decide_eq_true (by kernel_rfl)⟩
      · exact ⟨by kernel_rfl, of_decide_eq_true (by kernel_rfl)⟩)
    (by
      intro ds hl
      have hp : Try.f4.params.size = 2 := by rw [Try.params4]; rfl
      rw [hp] at hl
      match ds, hl with
      | [da, db], _ => rfl)
    (by
      have hp : Try.f4.params.toList = [5, 4] := by rw [Try.params4]
      show LawOK Try.prog 4 Try.f4.params.toList
      rw [hp]; exact law)
theorem over : Rows.automatonManyRow.holds Try.pinned (OpenSpec.ofChange Rows.automatonManySpec) :=
  OpenClaim.holds_of_wide 4 Try.f4 rfl rfl rfl rfl rfl rfl rfl ⟨rfl, rfl, rfl, rfl, rfl⟩ rfl rfl rfl rfl rfl (by kernel_rfl) Try.func4 (by kernel_rfl)
    (of_decide_eq_true (by kernel_rfl)) (by unfold Func.isWrapper; first | (rw [if_pos (by decide +kernel)]; kernel_rfl) | (rw [if_neg (by decide +kernel)]; exact ⟨rfl, rfl⟩))
    (fun os started H enc _ => lifted os started H enc)
theorem automatonMany_holds : Rows.AutomatonManySaid := over
end Go.Proofs.Ytkikefkbidaiaaa
