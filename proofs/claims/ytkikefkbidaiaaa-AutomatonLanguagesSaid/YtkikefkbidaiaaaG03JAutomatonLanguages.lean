/-
  AutomatonLanguages: for every input the law returns true, and each argument reads behind the call as it read before. No conditions.
-/
import Derived.Test.YtkikefkbidaiaaaP6
import Derived.Test.YtkikefkbidaiaaaRows
set_option linter.unusedVariables false
set_option linter.unusedSimpArgs false
set_option linter.unusedSectionVars false
namespace Go.Proofs.Ytkikefkbidaiaaa
open Go Go.Abs Go.ChangeShapes Go.WideShapes Go.ChangeAt Go.RowKit
set_option linter.unusedVariables false
set_option maxRecDepth 100000
theorem law : LawOK Try.prog 9 [31, 28] :=
  lawOK2 A_31 (fun _ => rfl) (fun _ => rfl) A_28 (fun _ => rfl) (fun _ => rfl) fun a b wa wb M nb => ok_overseerlaw03_AutomatonLanguages a b true (automatonLanguages_ok a b) M nb
theorem own : ownKnob Try.prog.godebug = none := by kernel_rfl
theorem lifted (os : Os) (started : os.Started) (H : Type) (enc : TypeId × Value → H) :
    ReturnsInHanded {} Try.checked os 9 .any (Rows.automatonLanguagesSpec.pre6 enc Try.prog Try.f9 Rows.automatonLanguagesRow.domain false) (Rows.automatonLanguagesSpec.post enc Try.prog Try.f9 false true false false) :=
  law_returns (C := Try.checked) own started (by kernel_rfl) Try.func9
    (ChangeSpec.witness6 (enc := enc) (C := Try.checked) false ⟨#[], #[.agg #[.slice none 0 0, .int .i64 0, .slice none 0 0, .slice none 0 0], .slice none 0 0], []⟩ 8 (by kernel_rfl) (by kernel_rfl) (by kernel_rfl) (by kernel_rfl))
    rfl rfl Try.underlying4 (by kernel_rfl)
    (by
      intro t ht
      have hp : Try.f9.params.toList = [31, 28] := by rw [Try.params9]
      rw [hp] at ht
      simp only [List.mem_cons, List.not_mem_nil, or_false] at ht
      rcases ht with rfl | rfl
      · exact ⟨by kernel_rfl, of_decide_eq_true (by kernel_rfl)⟩
      · exact ⟨by kernel_rfl, of_decide_eq_true (by kernel_rfl)⟩)
    (by
      intro ds hl
      have hp : Try.f9.params.size = 2 := by rw [Try.params9]; rfl
      rw [hp] at hl
      match ds, hl with
      | [da, db], _ => rfl)
    (by
      have hp : Try.f9.params.toList = [31, 28] := by rw [Try.params9]
      show LawOK Try.prog 9 Try.f9.params.toList
      rw [hp]; exact law)
theorem over : Rows.automatonLanguagesRow.holds Try.pinned (OpenSpec.ofChange Rows.automatonLanguagesSpec) :=
  OpenClaim.holds_of_wide 9 Try.f9 rfl rfl rfl rfl rfl rfl rfl ⟨rfl, rfl, rfl, rfl, rfl⟩ rfl rfl rfl rfl rfl (by kernel_rfl) Try.func9 (by kernel_rfl)
    (of_decide_eq_true (by kernel_rfl)) (by unfold Func.isWrapper; first | (rw [if_pos (by decide +kernel)]; kernel_rfl) | (rw [if_neg (by decide +kernel)]; exact ⟨rfl, rfl⟩))
    (fun os started H enc _ => lifted os started H enc)
theorem automatonLanguages_holds : Rows.AutomatonLanguagesSaid := over
end Go.Proofs.Ytkikefkbidaiaaa
